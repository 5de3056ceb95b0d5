/- A part of the proof of laws of this seat: PatchBack, PatchMetric. Conditions: none of our own. -/
import Derived.Test.YtdlolaognnbhpaaDoorK17
namespace Go.Proofs.YtdlolaognnbhpaaDoor.Pr
open Go.RowKit Go.Proofs.YtdlolaognnbhpaaDoorW.PrintWords Go.Proofs.YtdlolaognnbhpaaDoorW.PrintLast Go.Proofs.YtdlolaognnbhpaaDoorW.PrintMore
noncomputable section
attribute [local go_sem] max2_int min2_int max_two min_two max_three min_three max_four min_four
set_option linter.unusedVariables false
set_option linter.unusedSimpArgs false
def bookplatelaw18_few.f (k:Nat) (a0_0:Int) (l0_1:List (S50)) (a1_0:Int) (l1_1:List (S50)):Option (Bool):=(bookplateref12_Few.f k a0_0 l0_1 12).bind fun t473=>(if t473=true then ((bookplateref12_Few.f k a1_0 l1_1 12).bind fun t474=>(if t474=true then ((bookplateref12_Valid.f k a0_0 l0_1).bind fun t475=>(if t475=true then ((bookplateref12_Valid.f k a1_0 l1_1).bind fun t476=>(if t476=true then (some (a0_0==a1_0)) else (some false))) else (some false))) else (some false))) else (some false))
set_option maxHeartbeats 8000000 in
set_option maxRecDepth 100000 in
theorem bookplatelaw18_few.calls (k:Nat) (a0_0:Int) (A0_1:Option Addr) (c0_1:Nat) (l0_1:List (S50)) (a1_0:Int) (A1_1:Option Addr) (c1_1:Nat) (l1_1:List (S50)) (r:Bool) (w:World) (hr0_1:Kd.C k50 w A0_1 l0_1.length l0_1) (hc0_1:l0_1.length≤c0_1) (hr1_1:Kd.C k50 w A1_1 l1_1.length l1_1) (hc1_1:l1_1.length≤c1_1) (h:bookplatelaw18_few.f k a0_0 l0_1 a1_0 l1_1=some r):
 Calls Tryd.prog 18 #[.agg #[.int .i64 a0_0,.slice A0_1 l0_1.length c0_1],.agg #[.int .i64 a1_0,.slice A1_1 l1_1.length c1_1]] w fun e w'=>e= .returned (.bool r)∧Below w.heap.size w w':=by
 have hu24:=Tryd.underlying24
 have HR0_1:=Aside0.mk hr0_1
 have HC0_1:=Aside0.mk hc0_1
 clear hr0_1 hc0_1
 have HR1_1:=Aside0.mk hr1_1
 have HC1_1:=Aside0.mk hc1_1
 clear hr1_1 hc1_1
 have HB:=Aside0.mk (Below.refl w.heap.size w)
 have H:((bookplateref12_Few.f k a0_0 l0_1 12).bind fun t473=>(if t473=true then ((bookplateref12_Few.f k a1_0 l1_1 12).bind fun t474=>(if t474=true then ((bookplateref12_Valid.f k a0_0 l0_1).bind fun t475=>(if t475=true then ((bookplateref12_Valid.f k a1_0 l1_1).bind fun t476=>(if t476=true then (some (a0_0==a1_0)) else (some false))) else (some false))) else (some false))) else (some false)))=some r:=h
 clear h
 obtain ⟨t473,A3,H⟩:=ob_ H
 by_cases c4:t473=true
 {
 subst c4
 replace H:=tp_ H
 obtain ⟨t474,A5,H⟩:=ob_ H
 by_cases c6:t474=true
 {
 subst c6
 replace H:=tp_ H
 obtain ⟨t475,A7,H⟩:=ob_ H
 by_cases c8:t475=true
 {
 subst c8
 replace H:=tp_ H
 obtain ⟨t476,A9,H⟩:=ob_ H
 by_cases c10:t476=true
 {
 subst c10
 replace H:=tp_ H
 obtain rfl:=Option.some.inj H
 go_enter Tryd.func18,Tryd.ntmps18
 go_wp2_with (first|((with_reducible refine gate_dst (N:=2) rfl ?_);refine bx_ (N:=2) (cs:=#[.int .i64 a0_0,.slice A0_1 l0_1.length c0_1]) (t:=24) ?_;intro gb471 hg w11 hbox hb;have n_:=as4_ (below_step b0_ hb) (hbox) ((g0_ hg b0_:w.heap.size≤gb471)) ((g0_ hg b0_:w.heap.size≤gb471));clear HB;obtain ⟨HB,BK471,GW471,GE471⟩:=n_;clear hb hbox hg)|((with_reducible refine gate_dst (N:=3) rfl ?_);refine bx_ (N:=3) (cs:=#[.int .i64 a1_0,.slice A1_1 l1_1.length c1_1]) (t:=24) ?_;intro gb472 hg w12 hbox hb;have n_:=as7_ (bb_ BK471 hb) (below_step b0_ hb) (hbox) ((g0_ hg b0_:w.heap.size≤gb472)) ((g0_ hg b0_:w.heap.size≤gb472)) ((g1_ hg k0_:gb471≠gb472)) ((g2_ hg k0_:gb472≠gb471));clear BK471 HB;obtain ⟨BK471,HB,BK472,GW472,GE472,NB471_472,NB472_471⟩:=n_;clear hb hbox hg;have hnb13:=NB471_472.out;have hnc13:=NB472_471.out;obtain ⟨hcz14_0,hcz14_1,hfz14_0,hfz14_1⟩:=ce2_ BK471)|((with_reducible refine gate_callee (f:=8) rfl ?_);refine gl_ (some 6) Tryd.func8 #[.agg #[.int .i64 a0_0,.slice A0_1 l0_1.length c0_1],.int .i64 12] ?_;(with_reducible refine (bookplateref12_Few.calls k a0_0 _ _ l0_1 12 true _ ?side1 ?side2 A3.out).mono ?_);(case side1=>exact c0_);(case side2=>exact HC0_1.out);rintro e w15 ⟨rfl,hb⟩;refine ⟨_,rfl,?_⟩;have n_:=as3_ (bb_ BK471 hb) (bb_ BK472 hb) (below_step b0_ hb);clear BK471 BK472 HB;obtain ⟨BK471,BK472,HB⟩:=n_;(try clear hb);obtain ⟨hcz16_0,hcz16_1,hfz16_0,hfz16_1⟩:=ce2_ BK472)|(go_at_call 8;(with_reducible refine (bookplateref12_Few.calls k a1_0 _ _ l1_1 12 true _ ?side1 ?side2 A5.out).mono ?_);(case side1=>exact c0_);(case side2=>exact HC1_1.out);rintro e w17 ⟨rfl,hb⟩;have n_:=as3_ (bb_ BK471 hb) (bb_ BK472 hb) (below_step b0_ hb);clear BK471 BK472 HB;obtain ⟨BK471,BK472,HB⟩:=n_;(try clear hb);obtain ⟨hcz18_0,hcz18_1,hfz18_0,hfz18_1⟩:=ce2_ BK471)|(go_at_call 17;(with_reducible refine (bookplateref12_Valid.calls k a0_0 _ _ l0_1 true _ ?side1 ?side2 A7.out).mono ?_);(case side1=>exact c0_);(case side2=>exact HC0_1.out);rintro e w19 ⟨rfl,hb⟩;have n_:=as3_ (bb_ BK471 hb) (bb_ BK472 hb) (below_step b0_ hb);clear BK471 BK472 HB;obtain ⟨BK471,BK472,HB⟩:=n_;(try clear hb);obtain ⟨hcz20_0,hcz20_1,hfz20_0,hfz20_1⟩:=ce2_ BK472)|(go_at_call 17;(with_reducible refine (bookplateref12_Valid.calls k a1_0 _ _ l1_1 true _ ?side1 ?side2 A9.out).mono ?_);(case side1=>exact c0_);(case side2=>exact HC1_1.out);rintro e w21 ⟨rfl,hb⟩;have n_:=as3_ (bb_ BK471 hb) (bb_ BK472 hb) (below_step b0_ hb);clear BK471 BK472 HB;obtain ⟨BK471,BK472,HB⟩:=n_;(try clear hb);obtain ⟨hcz22_0,hcz22_1,hfz22_0,hfz22_1⟩:=ce2_ BK471;obtain ⟨hcz23_0,hcz23_1,hfz23_0,hfz23_1⟩:=ce2_ BK472))
 go_ret
 exact ⟨r1_,b0_⟩
 }
 {
 replace c10:=Bool.eq_false_iff.mpr c10
 subst c10
 replace H:=fn_ H
 obtain rfl:=Option.some.inj H
 go_enter Tryd.func18,Tryd.ntmps18
 go_wp2_with (first|((with_reducible refine gate_dst (N:=2) rfl ?_);refine bx_ (N:=2) (cs:=#[.int .i64 a0_0,.slice A0_1 l0_1.length c0_1]) (t:=24) ?_;intro gb471 hg w24 hbox hb;have n_:=as4_ (below_step b0_ hb) (hbox) ((g0_ hg b0_:w.heap.size≤gb471)) ((g0_ hg b0_:w.heap.size≤gb471));clear HB;obtain ⟨HB,BK471,GW471,GE471⟩:=n_;clear hb hbox hg)|((with_reducible refine gate_dst (N:=3) rfl ?_);refine bx_ (N:=3) (cs:=#[.int .i64 a1_0,.slice A1_1 l1_1.length c1_1]) (t:=24) ?_;intro gb472 hg w25 hbox hb;have n_:=as7_ (bb_ BK471 hb) (below_step b0_ hb) (hbox) ((g0_ hg b0_:w.heap.size≤gb472)) ((g0_ hg b0_:w.heap.size≤gb472)) ((g1_ hg k0_:gb471≠gb472)) ((g2_ hg k0_:gb472≠gb471));clear BK471 HB;obtain ⟨BK471,HB,BK472,GW472,GE472,NB471_472,NB472_471⟩:=n_;clear hb hbox hg;have hnb26:=NB471_472.out;have hnc26:=NB472_471.out;obtain ⟨hcz27_0,hcz27_1,hfz27_0,hfz27_1⟩:=ce2_ BK471)|((with_reducible refine gate_callee (f:=8) rfl ?_);refine gl_ (some 6) Tryd.func8 #[.agg #[.int .i64 a0_0,.slice A0_1 l0_1.length c0_1],.int .i64 12] ?_;(with_reducible refine (bookplateref12_Few.calls k a0_0 _ _ l0_1 12 true _ ?side1 ?side2 A3.out).mono ?_);(case side1=>exact c0_);(case side2=>exact HC0_1.out);rintro e w28 ⟨rfl,hb⟩;refine ⟨_,rfl,?_⟩;have n_:=as3_ (bb_ BK471 hb) (bb_ BK472 hb) (below_step b0_ hb);clear BK471 BK472 HB;obtain ⟨BK471,BK472,HB⟩:=n_;(try clear hb);obtain ⟨hcz29_0,hcz29_1,hfz29_0,hfz29_1⟩:=ce2_ BK472)|(go_at_call 8;(with_reducible refine (bookplateref12_Few.calls k a1_0 _ _ l1_1 12 true _ ?side1 ?side2 A5.out).mono ?_);(case side1=>exact c0_);(case side2=>exact HC1_1.out);rintro e w30 ⟨rfl,hb⟩;have n_:=as3_ (bb_ BK471 hb) (bb_ BK472 hb) (below_step b0_ hb);clear BK471 BK472 HB;obtain ⟨BK471,BK472,HB⟩:=n_;(try clear hb);obtain ⟨hcz31_0,hcz31_1,hfz31_0,hfz31_1⟩:=ce2_ BK471)|(go_at_call 17;(with_reducible refine (bookplateref12_Valid.calls k a0_0 _ _ l0_1 true _ ?side1 ?side2 A7.out).mono ?_);(case side1=>exact c0_);(case side2=>exact HC0_1.out);rintro e w32 ⟨rfl,hb⟩;have n_:=as3_ (bb_ BK471 hb) (bb_ BK472 hb) (below_step b0_ hb);clear BK471 BK472 HB;obtain ⟨BK471,BK472,HB⟩:=n_;(try clear hb);obtain ⟨hcz33_0,hcz33_1,hfz33_0,hfz33_1⟩:=ce2_ BK472)|(go_at_call 17;(with_reducible refine (bookplateref12_Valid.calls k a1_0 _ _ l1_1 false _ ?side1 ?side2 A9.out).mono ?_);(case side1=>exact c0_);(case side2=>exact HC1_1.out);rintro e w34 ⟨rfl,hb⟩;have n_:=as3_ (bb_ BK471 hb) (bb_ BK472 hb) (below_step b0_ hb);clear BK471 BK472 HB;obtain ⟨BK471,BK472,HB⟩:=n_;(try clear hb)))
 go_ret
 exact ⟨r1_,b0_⟩
 }
 }
 {
 replace c8:=Bool.eq_false_iff.mpr c8
 subst c8
 replace H:=fn_ H
 obtain rfl:=Option.some.inj H
 go_enter Tryd.func18,Tryd.ntmps18
 go_wp2_with (first|((with_reducible refine gate_dst (N:=2) rfl ?_);refine bx_ (N:=2) (cs:=#[.int .i64 a0_0,.slice A0_1 l0_1.length c0_1]) (t:=24) ?_;intro gb471 hg w35 hbox hb;have n_:=as4_ (below_step b0_ hb) (hbox) ((g0_ hg b0_:w.heap.size≤gb471)) ((g0_ hg b0_:w.heap.size≤gb471));clear HB;obtain ⟨HB,BK471,GW471,GE471⟩:=n_;clear hb hbox hg)|((with_reducible refine gate_dst (N:=3) rfl ?_);refine bx_ (N:=3) (cs:=#[.int .i64 a1_0,.slice A1_1 l1_1.length c1_1]) (t:=24) ?_;intro gb472 hg w36 hbox hb;have n_:=as7_ (bb_ BK471 hb) (below_step b0_ hb) (hbox) ((g0_ hg b0_:w.heap.size≤gb472)) ((g0_ hg b0_:w.heap.size≤gb472)) ((g1_ hg k0_:gb471≠gb472)) ((g2_ hg k0_:gb472≠gb471));clear BK471 HB;obtain ⟨BK471,HB,BK472,GW472,GE472,NB471_472,NB472_471⟩:=n_;clear hb hbox hg;have hnb37:=NB471_472.out;have hnc37:=NB472_471.out;obtain ⟨hcz38_0,hcz38_1,hfz38_0,hfz38_1⟩:=ce2_ BK471)|((with_reducible refine gate_callee (f:=8) rfl ?_);refine gl_ (some 6) Tryd.func8 #[.agg #[.int .i64 a0_0,.slice A0_1 l0_1.length c0_1],.int .i64 12] ?_;(with_reducible refine (bookplateref12_Few.calls k a0_0 _ _ l0_1 12 true _ ?side1 ?side2 A3.out).mono ?_);(case side1=>exact c0_);(case side2=>exact HC0_1.out);rintro e w39 ⟨rfl,hb⟩;refine ⟨_,rfl,?_⟩;have n_:=as3_ (bb_ BK471 hb) (bb_ BK472 hb) (below_step b0_ hb);clear BK471 BK472 HB;obtain ⟨BK471,BK472,HB⟩:=n_;(try clear hb);obtain ⟨hcz40_0,hcz40_1,hfz40_0,hfz40_1⟩:=ce2_ BK472)|(go_at_call 8;(with_reducible refine (bookplateref12_Few.calls k a1_0 _ _ l1_1 12 true _ ?side1 ?side2 A5.out).mono ?_);(case side1=>exact c0_);(case side2=>exact HC1_1.out);rintro e w41 ⟨rfl,hb⟩;have n_:=as3_ (bb_ BK471 hb) (bb_ BK472 hb) (below_step b0_ hb);clear BK471 BK472 HB;obtain ⟨BK471,BK472,HB⟩:=n_;(try clear hb);obtain ⟨hcz42_0,hcz42_1,hfz42_0,hfz42_1⟩:=ce2_ BK471)|(go_at_call 17;(with_reducible refine (bookplateref12_Valid.calls k a0_0 _ _ l0_1 false _ ?side1 ?side2 A7.out).mono ?_);(case side1=>exact c0_);(case side2=>exact HC0_1.out);rintro e w43 ⟨rfl,hb⟩;have n_:=as3_ (bb_ BK471 hb) (bb_ BK472 hb) (below_step b0_ hb);clear BK471 BK472 HB;obtain ⟨BK471,BK472,HB⟩:=n_;(try clear hb)))
 go_ret
 exact ⟨r1_,b0_⟩
 }
 }
 {
 replace c6:=Bool.eq_false_iff.mpr c6
 subst c6
 replace H:=fn_ H
 obtain rfl:=Option.some.inj H
 go_enter Tryd.func18,Tryd.ntmps18
 go_wp2_with (first|((with_reducible refine gate_dst (N:=2) rfl ?_);refine bx_ (N:=2) (cs:=#[.int .i64 a0_0,.slice A0_1 l0_1.length c0_1]) (t:=24) ?_;intro gb471 hg w44 hbox hb;have n_:=as4_ (below_step b0_ hb) (hbox) ((g0_ hg b0_:w.heap.size≤gb471)) ((g0_ hg b0_:w.heap.size≤gb471));clear HB;obtain ⟨HB,BK471,GW471,GE471⟩:=n_;clear hb hbox hg)|((with_reducible refine gate_dst (N:=3) rfl ?_);refine bx_ (N:=3) (cs:=#[.int .i64 a1_0,.slice A1_1 l1_1.length c1_1]) (t:=24) ?_;intro gb472 hg w45 hbox hb;have n_:=as7_ (bb_ BK471 hb) (below_step b0_ hb) (hbox) ((g0_ hg b0_:w.heap.size≤gb472)) ((g0_ hg b0_:w.heap.size≤gb472)) ((g1_ hg k0_:gb471≠gb472)) ((g2_ hg k0_:gb472≠gb471));clear BK471 HB;obtain ⟨BK471,HB,BK472,GW472,GE472,NB471_472,NB472_471⟩:=n_;clear hb hbox hg;have hnb46:=NB471_472.out;have hnc46:=NB472_471.out;obtain ⟨hcz47_0,hcz47_1,hfz47_0,hfz47_1⟩:=ce2_ BK471)|((with_reducible refine gate_callee (f:=8) rfl ?_);refine gl_ (some 6) Tryd.func8 #[.agg #[.int .i64 a0_0,.slice A0_1 l0_1.length c0_1],.int .i64 12] ?_;(with_reducible refine (bookplateref12_Few.calls k a0_0 _ _ l0_1 12 true _ ?side1 ?side2 A3.out).mono ?_);(case side1=>exact c0_);(case side2=>exact HC0_1.out);rintro e w48 ⟨rfl,hb⟩;refine ⟨_,rfl,?_⟩;have n_:=as3_ (bb_ BK471 hb) (bb_ BK472 hb) (below_step b0_ hb);clear BK471 BK472 HB;obtain ⟨BK471,BK472,HB⟩:=n_;(try clear hb);obtain ⟨hcz49_0,hcz49_1,hfz49_0,hfz49_1⟩:=ce2_ BK472)|(go_at_call 8;(with_reducible refine (bookplateref12_Few.calls k a1_0 _ _ l1_1 12 false _ ?side1 ?side2 A5.out).mono ?_);(case side1=>exact c0_);(case side2=>exact HC1_1.out);rintro e w50 ⟨rfl,hb⟩;have n_:=as3_ (bb_ BK471 hb) (bb_ BK472 hb) (below_step b0_ hb);clear BK471 BK472 HB;obtain ⟨BK471,BK472,HB⟩:=n_;(try clear hb)))
 go_ret
 exact ⟨r1_,b0_⟩
 }
 }
 {
 replace c4:=Bool.eq_false_iff.mpr c4
 subst c4
 replace H:=fn_ H
 obtain rfl:=Option.some.inj H
 go_enter Tryd.func18,Tryd.ntmps18
 go_wp2_with (first|((with_reducible refine gate_dst (N:=2) rfl ?_);refine bx_ (N:=2) (cs:=#[.int .i64 a0_0,.slice A0_1 l0_1.length c0_1]) (t:=24) ?_;intro gb471 hg w51 hbox hb;have n_:=as4_ (below_step b0_ hb) (hbox) ((g0_ hg b0_:w.heap.size≤gb471)) ((g0_ hg b0_:w.heap.size≤gb471));clear HB;obtain ⟨HB,BK471,GW471,GE471⟩:=n_;clear hb hbox hg)|((with_reducible refine gate_dst (N:=3) rfl ?_);refine bx_ (N:=3) (cs:=#[.int .i64 a1_0,.slice A1_1 l1_1.length c1_1]) (t:=24) ?_;intro gb472 hg w52 hbox hb;have n_:=as7_ (bb_ BK471 hb) (below_step b0_ hb) (hbox) ((g0_ hg b0_:w.heap.size≤gb472)) ((g0_ hg b0_:w.heap.size≤gb472)) ((g1_ hg k0_:gb471≠gb472)) ((g2_ hg k0_:gb472≠gb471));clear BK471 HB;obtain ⟨BK471,HB,BK472,GW472,GE472,NB471_472,NB472_471⟩:=n_;clear hb hbox hg;have hnb53:=NB471_472.out;have hnc53:=NB472_471.out;obtain ⟨hcz54_0,hcz54_1,hfz54_0,hfz54_1⟩:=ce2_ BK471)|((with_reducible refine gate_callee (f:=8) rfl ?_);refine gl_ (some 6) Tryd.func8 #[.agg #[.int .i64 a0_0,.slice A0_1 l0_1.length c0_1],.int .i64 12] ?_;(with_reducible refine (bookplateref12_Few.calls k a0_0 _ _ l0_1 12 false _ ?side1 ?side2 A3.out).mono ?_);(case side1=>exact c0_);(case side2=>exact HC0_1.out);rintro e w55 ⟨rfl,hb⟩;refine ⟨_,rfl,?_⟩;have n_:=as3_ (bb_ BK471 hb) (bb_ BK472 hb) (below_step b0_ hb);clear BK471 BK472 HB;obtain ⟨BK471,BK472,HB⟩:=n_;(try clear hb)))
 go_ret
 exact ⟨r1_,b0_⟩
 }
end
end Go.Proofs.YtdlolaognnbhpaaDoor.Pr
