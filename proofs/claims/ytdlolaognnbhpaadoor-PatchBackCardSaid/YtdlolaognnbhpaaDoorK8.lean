/- A part of the proof of laws of this seat: PatchBack, PatchDiff, PatchLeast, PatchMetric. Conditions: none of our own. -/
import Derived.Test.YtdlolaognnbhpaaDoorK7
namespace Go.Proofs.YtdlolaognnbhpaaDoor.Pr
open Go.RowKit Go.Proofs.YtdlolaognnbhpaaDoorW.PrintWords Go.Proofs.YtdlolaognnbhpaaDoorW.PrintLast Go.Proofs.YtdlolaognnbhpaaDoorW.PrintMore
noncomputable section
attribute [local go_sem] max2_int min2_int max_two min_two max_three min_three max_four min_four
set_option linter.unusedVariables false
set_option linter.unusedSimpArgs false
def api_Field__v35_45003.l0:Nat→List (S50)→Int→Int→Option (Int)
 |0,_,_,_=>none
 |k+1,x0,x7,x8=>if x8<x7 then (if 0≤x8 then (if x8<(x0.length:Int) then ((record_Valid_1.f k ((rd_T50 x0 x8).f0) ((rd_T50 x0 x8).f1.f0) ((rd_T50 x0 x8).f1.f1) ((rd_T50 x0 x8).f2)).bind fun t188=>(if t188=true then (some x8) else (api_Field__v35_45003.l0 k x0 x7 (wrap64 (x8+1))))) else (none)) else (none)) else (some (-1))
def api_Field__v35_45003.f (k:Nat) (l0:List (S50)):Option (Int):=api_Field__v35_45003.l0 k l0 (l0.length:Int) 0
set_option maxHeartbeats 8000000 in
set_option maxRecDepth 100000 in
theorem api_Field__v35_45003.calls (k:Nat) (A0:Option Addr) (c0:Nat) (l0:List (S50)) (r:Int) (w:World) (hT:PTabs w) (hr0:Kd.C k50 w A0 l0.length l0) (hc0:l0.length≤c0) (h:api_Field__v35_45003.f k l0=some r):
 Calls Tryd.prog 45 #[.slice A0 l0.length c0,.func (.func 35) #[] #[]] w fun e w'=>e= .returned (.int .i64 r)∧Below w.heap.size w w':=by
 have hu50:=Tryd.underlying50
 have HR0:=Aside0.mk hr0
 have HC0:=Aside0.mk hc0
 clear hr0 hc0
 have HB:=Aside0.mk (Below.refl w.heap.size w)
 have HT:=Aside0.mk hT
 clear hT
 have H:(api_Field__v35_45003.l0 k l0 (l0.length:Int) 0)=some r:=h
 clear h
 have H':=Aside0.mk H
 clear H
 go_enter Tryd.func45,Tryd.ntmps45
 go_wp2
 go_loopg [8] k (fun kq v8 w'=>∃ (x8_1:Int),v8= .int .i64 x8_1∧Aside0 (api_Field__v35_45003.l0 kq l0 (l0.length:Int) x8_1=some r)∧Aside0 (kq≤k)∧Aside0 (Below w.heap.size w w'))
 case atStart=>exact ⟨(0),r0_,H',⟨Nat.le_refl _⟩,⟨b0_⟩⟩
 case round=>
  (
 clear H'
 obtain ⟨x8_1,rfl,HA,HK1,HB⟩:=hrel
 cases gk with
 |zero=>exact absurd HA.out (by simp [api_Field__v35_45003.l0])
 |succ k1=>
  (
 have H:=HA.out
 clear HA
 simp only [api_Field__v35_45003.l0] at H
 by_cases c2:x8_1<(l0.length:Int)
 {
 rw [if_pos c2] at H
 have c2b0:decide (x8_1<(l0.length:Int))=true:=decide_eq_true c2
 clear c2
 by_cases c3:0≤x8_1
 {
 rw [if_pos c3] at H
 have c3b0:decide (0≤x8_1)=true:=decide_eq_true c3
 clear c3
 by_cases c4:x8_1<(l0.length:Int)
 {
 rw [if_pos c4] at H
 have c4b0:decide (x8_1<(l0.length:Int))=true:=decide_eq_true c4
 clear c4
 obtain ⟨t188,A5,H⟩:=ob_ H
 by_cases c6:t188=true
 {
 subst c6
 replace H:=tp_ H
 obtain rfl:=Option.some.inj H
 have p187:0≤(x8_1:Int):=od_
 have q187:x8_1<(l0.length:Int):=od_
 obtain ⟨ad187,A187_3,c187_3,e187,hx187_0,hx187_1,hx187_2,hx187_3,hl187_3,hi187_3⟩:=at_T50 HR0.out x8_1 p187 q187
 cases e187
 replace hx187_0:=cel_ HB hx187_0
 replace hx187_1:=cel_ HB hx187_1
 replace hx187_2:=cel_ HB hx187_2
 replace hx187_3:=cel_ HB hx187_3
 have HR187_3:=Aside0.mk hi187_3
 have HC187_3:=Aside0.mk hl187_3
 clear hi187_3 hl187_3
 replace p187:=eq_true p187
 replace q187:=eq_true q187
 go_wp2_with (first|((refine Aid.gate_calleeT (f:=35) rfl rfl ?_);refine Aid.goesT_ (some 16) rfl rfl Tryd.func35 (by kernel_rfl) rfl #[.agg #[.string ((rd_T50 l0 x8_1).f0),.int .u8 ((rd_T50 l0 x8_1).f1.f0),.int .u8 ((rd_T50 l0 x8_1).f1.f1),.slice A187_3 ((rd_T50 l0 x8_1).f2).length c187_3]] rfl rfl ml_ ?_;(with_reducible refine (record_Valid_1.calls k1 ((rd_T50 l0 x8_1).f0) ((rd_T50 l0 x8_1).f1.f0) ((rd_T50 l0 x8_1).f1.f1) _ _ ((rd_T50 l0 x8_1).f2) true _ ?side3 ?side1 ?side2 A5.out).mono ?_);(case side1=>exact c0_);(case side2=>exact HC187_3.out);(case side3=>exact PTabs.step HT.out b0_);rintro e w7 ⟨rfl,hb⟩;refine ⟨_,rfl,?_⟩;have n0_:=Aside0.mk (below_step b0_ hb);clear HB;have HB:=n0_;clear n0_;(try clear hb)))
 go_ret
 exact ⟨r1_,b0_⟩
 }
 {
 replace c6:=Bool.eq_false_iff.mpr c6
 subst c6
 replace H:=fn_ H
 have H':=Aside0.mk H
 clear H
 have p187:0≤(x8_1:Int):=od_
 have q187:x8_1<(l0.length:Int):=od_
 obtain ⟨ad187,A187_3,c187_3,e187,hx187_0,hx187_1,hx187_2,hx187_3,hl187_3,hi187_3⟩:=at_T50 HR0.out x8_1 p187 q187
 cases e187
 replace hx187_0:=cel_ HB hx187_0
 replace hx187_1:=cel_ HB hx187_1
 replace hx187_2:=cel_ HB hx187_2
 replace hx187_3:=cel_ HB hx187_3
 have HR187_3:=Aside0.mk hi187_3
 have HC187_3:=Aside0.mk hl187_3
 clear hi187_3 hl187_3
 replace p187:=eq_true p187
 replace q187:=eq_true q187
 go_wp2_with (first|((refine Aid.gate_calleeT (f:=35) rfl rfl ?_);refine Aid.goesT_ (some 16) rfl rfl Tryd.func35 (by kernel_rfl) rfl #[.agg #[.string ((rd_T50 l0 x8_1).f0),.int .u8 ((rd_T50 l0 x8_1).f1.f0),.int .u8 ((rd_T50 l0 x8_1).f1.f1),.slice A187_3 ((rd_T50 l0 x8_1).f2).length c187_3]] rfl rfl ml_ ?_;(with_reducible refine (record_Valid_1.calls k1 ((rd_T50 l0 x8_1).f0) ((rd_T50 l0 x8_1).f1.f0) ((rd_T50 l0 x8_1).f1.f1) _ _ ((rd_T50 l0 x8_1).f2) false _ ?side3 ?side1 ?side2 A5.out).mono ?_);(case side1=>exact c0_);(case side2=>exact HC187_3.out);(case side3=>exact PTabs.step HT.out b0_);rintro e w8 ⟨rfl,hb⟩;refine ⟨_,rfl,?_⟩;have n0_:=Aside0.mk (below_step b0_ hb);clear HB;have HB:=n0_;clear n0_;(try clear hb)))
 go_roundg k1
 case measure=>have:=HK1.out;omega
 case rel=>exact ⟨(wrap64 (x8_1+1)),r0_,H',⟨by have:=HK1.out;omega⟩,⟨b0_⟩⟩
 }
 }
 {
 rw [if_neg c4] at H
 exact absurd H (by simp)
 }
 }
 {
 rw [if_neg c3] at H
 exact absurd H (by simp)
 }
 }
 {
 rw [if_neg c2] at H
 have c2b0:decide (x8_1<(l0.length:Int))=false:=decide_eq_false c2
 clear c2
 obtain rfl:=Option.some.inj H
 go_wp2
 go_ret
 exact ⟨r1_,b0_⟩
 }
  )
  )
def api_Field__v35_28002.f (k:Nat) (l0:List (S50)):Option (Bool):=(api_Field__v35_45003.f k l0).bind fun t189=>(some (decide (t189≥0)))
set_option maxHeartbeats 8000000 in
set_option maxRecDepth 100000 in
theorem api_Field__v35_28002.calls (k:Nat) (A0:Option Addr) (c0:Nat) (l0:List (S50)) (r:Bool) (w:World) (hT:PTabs w) (hr0:Kd.C k50 w A0 l0.length l0) (hc0:l0.length≤c0) (h:api_Field__v35_28002.f k l0=some r):
 Calls Tryd.prog 28 #[.slice A0 l0.length c0,.func (.func 35) #[] #[]] w fun e w'=>e= .returned (.bool r)∧Below w.heap.size w w':=by
 have HR0:=Aside0.mk hr0
 have HC0:=Aside0.mk hc0
 clear hr0 hc0
 have HB:=Aside0.mk (Below.refl w.heap.size w)
 have HT:=Aside0.mk hT
 clear hT
 have H:((api_Field__v35_45003.f k l0).bind fun t189=>(some (decide (t189≥0))))=some r:=h
 clear h
 obtain ⟨t189,A2,H⟩:=ob_ H
 obtain rfl:=Option.some.inj H
 go_enter Tryd.func28,Tryd.ntmps28
 go_wp2_with (first|((with_reducible refine gate_callee (f:=45) rfl ?_);refine gl_ (some 7) Tryd.func45 #[.slice A0 l0.length c0,.func (.func 35) #[] #[]] ?_;(with_reducible refine (api_Field__v35_45003.calls k _ _ l0 t189 _ ?side3 ?side1 ?side2 A2.out).mono ?_);(case side1=>repeat (first|exact HR0.out|(with_reducible refine Kd.C_alloc ?_ _)|(with_reducible refine Kd.C_drewN ?_ _)|(with_reducible refine Kd.C_drew ?_)));(case side2=>exact HC0.out);(case side3=>exact PTabs.step HT.out b0_);rintro e w3 ⟨rfl,hb⟩;refine ⟨_,rfl,?_⟩;have n0_:=Aside0.mk (below_step b0_ hb);clear HB;have HB:=n0_;clear n0_;(try clear hb)))
 go_ret
 exact ⟨r1_,b0_⟩
def record_Valid.f (k:Nat) (a0_0:Int) (l0_1:List (S50)):Option (Bool):=if a0_0<1 then (some false) else (if a0_0>1000000000 then (some false) else (if (l0_1.length:Int)<1 then (some false) else (if (l0_1.length:Int)>60 then (some false) else ((api_Field__v35_28002.f k l0_1).bind fun t191=>(some (!t191))))))
set_option maxHeartbeats 8000000 in
set_option maxRecDepth 100000 in
theorem record_Valid.calls (k:Nat) (a0_0:Int) (A0_1:Option Addr) (c0_1:Nat) (l0_1:List (S50)) (r:Bool) (w:World) (hT:PTabs w) (hr0_1:Kd.C k50 w A0_1 l0_1.length l0_1) (hc0_1:l0_1.length≤c0_1) (h:record_Valid.f k a0_0 l0_1=some r):
 Calls Tryd.prog 23 #[.agg #[.int .i64 a0_0,.slice A0_1 l0_1.length c0_1]] w fun e w'=>e= .returned (.bool r)∧Below w.heap.size w w':=by
 have hu24:=Tryd.underlying24
 have HR0_1:=Aside0.mk hr0_1
 have HC0_1:=Aside0.mk hc0_1
 clear hr0_1 hc0_1
 have HB:=Aside0.mk (Below.refl w.heap.size w)
 have HT:=Aside0.mk hT
 clear hT
 have H:(if a0_0<1 then (some false) else (if a0_0>1000000000 then (some false) else (if (l0_1.length:Int)<1 then (some false) else (if (l0_1.length:Int)>60 then (some false) else ((api_Field__v35_28002.f k l0_1).bind fun t191=>(some (!t191)))))))=some r:=h
 clear h
 by_cases c2:a0_0<1
 {
 rw [if_pos c2] at H
 have c2b0:decide (a0_0<1)=true:=decide_eq_true c2
 clear c2
 obtain rfl:=Option.some.inj H
 go_enter Tryd.func23,Tryd.ntmps23
 go_wp2_with (first|((with_reducible refine gate_dst (N:=1) rfl ?_);(try (refine gate_guard (by rfl) ?_;dsimp only));refine bx_ (N:=1) (cs:=#[.int .i64 a0_0,.slice A0_1 l0_1.length c0_1]) (t:=24) ?_;intro gb190 hg w3 hbox hb;have n_:=as4_ (below_step b0_ hb) (hbox) ((g0_ hg b0_:w.heap.size≤gb190)) ((g0_ hg b0_:w.heap.size≤gb190));clear HB;obtain ⟨HB,BK190,GW190,GE190⟩:=n_;clear hb hbox hg;obtain ⟨hcz4_0,hcz4_1,hfz4_0,hfz4_1⟩:=ce2_ BK190))
 go_ret
 exact ⟨r1_,b0_⟩
 }
 {
 rw [if_neg c2] at H
 have c2b0:decide (a0_0<1)=false:=decide_eq_false c2
 clear c2
 by_cases c5:a0_0>1000000000
 {
 rw [if_pos c5] at H
 have c5b0:decide (1000000000<a0_0)=true:=decide_eq_true c5
 clear c5
 obtain rfl:=Option.some.inj H
 go_enter Tryd.func23,Tryd.ntmps23
 go_wp2_with (first|((with_reducible refine gate_dst (N:=1) rfl ?_);(try (refine gate_guard (by rfl) ?_;dsimp only));refine bx_ (N:=1) (cs:=#[.int .i64 a0_0,.slice A0_1 l0_1.length c0_1]) (t:=24) ?_;intro gb190 hg w6 hbox hb;have n_:=as4_ (below_step b0_ hb) (hbox) ((g0_ hg b0_:w.heap.size≤gb190)) ((g0_ hg b0_:w.heap.size≤gb190));clear HB;obtain ⟨HB,BK190,GW190,GE190⟩:=n_;clear hb hbox hg;obtain ⟨hcz7_0,hcz7_1,hfz7_0,hfz7_1⟩:=ce2_ BK190))
 go_ret
 exact ⟨r1_,b0_⟩
 }
 {
 rw [if_neg c5] at H
 have c5b0:decide (1000000000<a0_0)=false:=decide_eq_false c5
 clear c5
 by_cases c8:(l0_1.length:Int)<1
 {
 rw [if_pos c8] at H
 have c8b0:decide ((l0_1.length:Int)<1)=true:=decide_eq_true c8
 have c8b1:decide (l0_1.length<1)=true:=decide_eq_true (by omega)
 clear c8
 obtain rfl:=Option.some.inj H
 go_enter Tryd.func23,Tryd.ntmps23
 go_wp2_with (first|((with_reducible refine gate_dst (N:=1) rfl ?_);(try (refine gate_guard (by rfl) ?_;dsimp only));refine bx_ (N:=1) (cs:=#[.int .i64 a0_0,.slice A0_1 l0_1.length c0_1]) (t:=24) ?_;intro gb190 hg w9 hbox hb;have n_:=as4_ (below_step b0_ hb) (hbox) ((g0_ hg b0_:w.heap.size≤gb190)) ((g0_ hg b0_:w.heap.size≤gb190));clear HB;obtain ⟨HB,BK190,GW190,GE190⟩:=n_;clear hb hbox hg;obtain ⟨hcz10_0,hcz10_1,hfz10_0,hfz10_1⟩:=ce2_ BK190))
 go_ret
 exact ⟨r1_,b0_⟩
 }
 {
 rw [if_neg c8] at H
 have c8b0:decide ((l0_1.length:Int)<1)=false:=decide_eq_false c8
 have c8b1:decide (l0_1.length<1)=false:=decide_eq_false (by omega)
 clear c8
 by_cases c11:(l0_1.length:Int)>60
 {
 rw [if_pos c11] at H
 have c11b0:decide (60<(l0_1.length:Int))=true:=decide_eq_true c11
 have c11b1:decide (60<l0_1.length)=true:=decide_eq_true (by omega)
 clear c11
 obtain rfl:=Option.some.inj H
 go_enter Tryd.func23,Tryd.ntmps23
 go_wp2_with (first|((with_reducible refine gate_dst (N:=1) rfl ?_);(try (refine gate_guard (by rfl) ?_;dsimp only));refine bx_ (N:=1) (cs:=#[.int .i64 a0_0,.slice A0_1 l0_1.length c0_1]) (t:=24) ?_;intro gb190 hg w12 hbox hb;have n_:=as4_ (below_step b0_ hb) (hbox) ((g0_ hg b0_:w.heap.size≤gb190)) ((g0_ hg b0_:w.heap.size≤gb190));clear HB;obtain ⟨HB,BK190,GW190,GE190⟩:=n_;clear hb hbox hg;obtain ⟨hcz13_0,hcz13_1,hfz13_0,hfz13_1⟩:=ce2_ BK190))
 go_ret
 exact ⟨r1_,b0_⟩
 }
 {
 rw [if_neg c11] at H
 have c11b0:decide (60<(l0_1.length:Int))=false:=decide_eq_false c11
 have c11b1:decide (60<l0_1.length)=false:=decide_eq_false (by omega)
 clear c11
 obtain ⟨t191,A14,H⟩:=ob_ H
 obtain rfl:=Option.some.inj H
 go_enter Tryd.func23,Tryd.ntmps23
 go_wp2_with (first|((with_reducible refine gate_dst (N:=1) rfl ?_);(try (refine gate_guard (by rfl) ?_;dsimp only));refine bx_ (N:=1) (cs:=#[.int .i64 a0_0,.slice A0_1 l0_1.length c0_1]) (t:=24) ?_;intro gb190 hg w15 hbox hb;have n_:=as4_ (below_step b0_ hb) (hbox) ((g0_ hg b0_:w.heap.size≤gb190)) ((g0_ hg b0_:w.heap.size≤gb190));clear HB;obtain ⟨HB,BK190,GW190,GE190⟩:=n_;clear hb hbox hg;obtain ⟨hcz16_0,hcz16_1,hfz16_0,hfz16_1⟩:=ce2_ BK190)|((with_reducible refine gate_callee (f:=28) rfl ?_);refine gl_ (some 25) Tryd.func28 #[.slice A0_1 l0_1.length c0_1,.func (.func 35) #[] #[]] ?_;(with_reducible refine (api_Field__v35_28002.calls k _ _ l0_1 t191 _ ?side3 ?side1 ?side2 A14.out).mono ?_);(case side1=>exact c0_);(case side2=>exact HC0_1.out);(case side3=>exact PTabs.step HT.out b0_);rintro e w17 ⟨rfl,hb⟩;refine ⟨_,rfl,?_⟩;have n_:=as2_ (bb_ BK190 hb) (below_step b0_ hb);clear BK190 HB;obtain ⟨BK190,HB⟩:=n_;(try clear hb)))
 go_ret
 exact ⟨r1_,b0_⟩
 }
 }
 }
 }
end
end Go.Proofs.YtdlolaognnbhpaaDoor.Pr
namespace Go.Proofs.YtdlolaognnbhpaaDoor.Pr
open Go.RowKit Go.Proofs.YtdlolaognnbhpaaDoorW.PrintWords Go.Proofs.YtdlolaognnbhpaaDoorW.PrintLast Go.Proofs.YtdlolaognnbhpaaDoorW.PrintMore
noncomputable section
attribute [local go_sem] max2_int min2_int max_two min_two max_three min_three max_four min_four
set_option linter.unusedVariables false
set_option linter.unusedSimpArgs false
def api_Sub_55.f (l0:List S55):Option (List S55):=if l0.length<5864062014805 then some l0 else none
set_option maxHeartbeats 8000000 in
set_option maxRecDepth 100000 in
theorem api_Sub_55.calls (A0:Option Addr) (c0:Nat) (l0:List S55) (r:List S55) (w:World) (hr0:Kd.C k55 w A0 l0.length l0) (hc0:l0.length≤c0) (h:api_Sub_55.f l0=some r):
 Calls Tryd.prog 55 #[.slice A0 l0.length c0] w fun e w'=>∃ v0_:Value,e= .returned (v0_)∧Kd.R k55 55 w' w.heap.size (fun _=>True) v0_ r∧Below w.heap.size w w':=by
 unfold api_Sub_55.f at h
 by_cases hl:l0.length<5864062014805
 {
 rw [if_pos hl] at h
 obtain rfl:=Option.some.inj h
 clear h
 have HR0:=Aside0.mk hr0
 have HL:=Aside0.mk hl
 clear hr0 hl
 have q:∀ (w:World) (a:Option Addr) (n c n' c':Nat),(binOp .eql 48 (.slice a n c) (.slice none n' c')).run Tryd.prog w= .ok (.bool a.isNone) w:=fun w a n c n' c'=>Lib.run_eql_slice_nil w _ _ a n c n' c' Tryd.underlying48
 cases A0 with
 |none=>
  (
 have hz:l0=[]:=by {
 rcases Nat.eq_zero_or_pos l0.length with h1|h1
 {
 exact List.eq_nil_of_length_eq_zero h1
 }
 {
 obtain ⟨_,h2,_⟩:=HR0.out.2.2 h1
 cases h2
 }
 }
 subst hz
 go_enter Tryd.func55,Tryd.ntmps55
 go_wp2
 go_ret
 exact ⟨_,rfl,Kd.R_nil _ _ _ _ _,Below.refl _ _⟩
  )
 |some A=>
  (
 go_enter Tryd.func55,Tryd.ntmps55
 go_wp2_with (first
   |((with_reducible refine gate_dst (N:=5) rfl ?_);refine Kd.R_lit k55 _ 55 ?hg (N:=5) ?hd (xs:=([]:List S55)) (inner:=[]) (ok:=fun _=>True) (okp:=fun _=>True) ?hr ?hp (fun _ hk=>hk) trivial (Below.refl _ _) (Nat.le_refl _) (by simp) ?_;(case hd=>rfl);(case hg=>rfl);(case hr=>first|(go_simp;done)|(go_simp;rfl));(case hp=>exact (Reps.none _ _));intro v1 w1 ho1 hb1 hg1 hn1;have HO1:=Aside0.mk ho1;have HB1:=Aside0.mk hb1;clear ho1 hb1 hg1 hn1)
   |((with_reducible refine gate_builtin (b:= .append) (xs:=#[.tmp 5,.tmp 6]) rfl ?_);at_builtin;refine Kd.R_append_rows k55 (w0:=w) w.heap.size rfl (.tmp 5) (.tmp 6) 48 55 (.agg #[(.int .u8 0),(.string ⟨#[]⟩)]) 24 rfl Tryd.underlying48 info55 rfl (by decide) (by omega) v1 [] l0 _ _ _ (fun _=>True) (fun _=>False) rfl rfl HO1.out (Kd.C_below HR0.out HB1.out) (fun _ _ h=>h) (fun _ h=>h.elim) (fun _ _=>trivial) HB1.out HB1.out.size (by have:=HL.out;simp only [List.length_nil];omega) ?_;intro v2 w2 ho2 hb2 hg2 ha2;have HO2:=Aside0.mk ho2;have HB2:=Aside0.mk hb2;clear ho2 hb2 hg2 ha2))
 go_ret
 exact ⟨_,rfl,HO2.out,HB2.out⟩
  )
 }
 {
 rw [if_neg hl] at h
 cases h
 }
def patch_own.l0:Nat→List (S50)→List (S50)→Int→Int→Option ((List (S50)))
 |0,_,_,_,_=>none
 |k+1,x3,x6,x7,x8=>if x8<x7 then (if 0≤x8 then (if x8<(x6.length:Int) then ((api_Sub_55.f ((rd_T50 x6 x8).f2)).bind fun t194=>(if x3.length<2932031007402 then (patch_own.l0 k (x3++[(⟨(rd_T50 x6 x8).f0,(⟨(rd_T50 x6 x8).f1.f0,(rd_T50 x6 x8).f1.f1⟩:S47),t194⟩:S50)]) x6 x7 (wrap64 (x8+1))) else (none))) else (none)) else (none)) else (some x3)
def patch_own.f (k:Nat) (l0:List (S50)):Option ((List (S50))):=patch_own.l0 k ([]:List (S50)) l0 (l0.length:Int) 0
set_option maxHeartbeats 8000000 in
set_option maxRecDepth 100000 in
theorem patch_own.calls (k:Nat) (A0:Option Addr) (c0:Nat) (l0:List (S50)) (r:List (S50)) (w:World) (hr0:Kd.C k50 w A0 l0.length l0) (hc0:l0.length≤c0) (h:patch_own.f k l0=some r):
 Calls Tryd.prog 34 #[.slice A0 l0.length c0] w fun e w'=>∃ v0_:Value,e= .returned (v0_)∧Kd.S k50 50 w' w.heap.size (fun _=>True) v0_ r∧Below w.heap.size w w':=by
 have hu50:=Tryd.underlying50
 have HR0:=Aside0.mk hr0
 have HC0:=Aside0.mk hc0
 clear hr0 hc0
 have HB:=Aside0.mk (Below.refl w.heap.size w)
 have H:(patch_own.l0 k ([]:List (S50)) l0 (l0.length:Int) 0)=some r:=h
 clear h
 have H':=Aside0.mk H
 clear H
 go_enter Tryd.func34,Tryd.ntmps34
 go_wp2
 go_loopg [3,8] k (fun kq v3 v8 w'=>∃ (x3_1:List (S50)) (x8_1:Int),v8= .int .i64 x8_1∧Aside0 (patch_own.l0 kq x3_1 l0 (l0.length:Int) x8_1=some r)∧Aside0 (kq≤k)∧Aside0 (Kd.S k50 50 w' w.heap.size (fun _=>True) v3 x3_1)∧Aside0 (Below w.heap.size w w'))
 case atStart=>exact ⟨(([]:List (S50))),(0),r0_,H',⟨Nat.le_refl _⟩,⟨by first|exact Kd.S_nil _ _ _ _ _|exact Kd.N_nil _ _ _ _ _|exact Kd.V_nil _ _ _ _ _|exact Kd.Q_nil _ _ _ _ _|exact Kd.R_nil _ _ _ _ _⟩,⟨b0_⟩⟩
 case round=>
  (
 clear H'
 obtain ⟨x3_1,x8_1,rfl,HA,HK1,HO_3,HB⟩:=hrel
 cases gk with
 |zero=>exact absurd HA.out (by simp [patch_own.l0])
 |succ k1=>
  (
 have H:=HA.out
 clear HA
 simp only [patch_own.l0] at H
 by_cases c2:x8_1<(l0.length:Int)
 {
 rw [if_pos c2] at H
 have c2b0:decide (x8_1<(l0.length:Int))=true:=decide_eq_true c2
 clear c2
 by_cases c3:0≤x8_1
 {
 rw [if_pos c3] at H
 have c3b0:decide (0≤x8_1)=true:=decide_eq_true c3
 clear c3
 by_cases c4:x8_1<(l0.length:Int)
 {
 rw [if_pos c4] at H
 have c4b0:decide (x8_1<(l0.length:Int))=true:=decide_eq_true c4
 clear c4
 obtain ⟨t194,A5,H⟩:=ob_ H
 by_cases c6:x3_1.length<2932031007402
 {
 rw [if_pos c6] at H
 have LMc6:=Aside0.mk c6
 clear c6
 obtain ⟨y197,hy197⟩:∃ y_:List (S50),y_=(x3_1++[(⟨(rd_T50 l0 x8_1).f0,(⟨(rd_T50 l0 x8_1).f1.f0,(rd_T50 l0 x8_1).f1.f1⟩:S47),t194⟩:S50)]):=⟨_,rfl⟩
 replace H:(patch_own.l0 k1 y197 l0 (l0.length:Int) (wrap64 (x8_1+1)))=some r:=by first|(rw [hy197];with_reducible exact H)|(have H2_:=(Option.bind_some _ _).symm.trans H;rw [hy197];with_reducible exact H2_)|(have H2_:=(Option.bind_some _ _).symm.trans H;with_reducible exact H2_)|with_reducible exact H|(rw [hy197];exact H)|exact H
 have Ny197:=Aside0.mk hy197
 clear hy197
 have H':=Aside0.mk H
 clear H
 have p192:0≤(x8_1:Int):=od_
 have q192:x8_1<(l0.length:Int):=od_
 obtain ⟨ad192,A192_3,c192_3,e192,hx192_0,hx192_1,hx192_2,hx192_3,hl192_3,hi192_3⟩:=at_T50 HR0.out x8_1 p192 q192
 cases e192
 replace hx192_0:=cel_ HB hx192_0
 replace hx192_1:=cel_ HB hx192_1
 replace hx192_2:=cel_ HB hx192_2
 replace hx192_3:=cel_ HB hx192_3
 have HR192_3:=Aside0.mk hi192_3
 have HC192_3:=Aside0.mk hl192_3
 clear hi192_3 hl192_3
 replace p192:=eq_true p192
 replace q192:=eq_true q192
 go_wp2_with (first|((with_reducible refine gate_dst (N:=5) rfl ?_);refine box_event ?hg (N:=5) ?hd (cs:=#[.string (⟨#[]⟩:ByteArray),.int .u8 0,.int .u8 0,.slice none 0 0]) (t:=50) ?hr ?_;(case hd=>rfl);(case hg=>rfl);(case hr=>first|(go_simp;done)|(go_simp;rfl));intro gb193 hg w7 hbox hb;have n_:=as5_ (Kd.S_below (Kd.S_elderB (xS_ HO_3) gb193 (Nat.le_of_eq hg.symm)) hb) (below_step b0_ hb) (hbox) ((g0_ hg b0_:w.heap.size≤gb193)) ((g0_ hg b0_:w.heap.size≤gb193));clear HO_3 HB;obtain ⟨HO_3,HB,BK193,GW193,GE193⟩:=n_;clear hb hbox hg;obtain ⟨hcz8_0,hcz8_1,hcz8_2,hcz8_3,hfz8_0,hfz8_1,hfz8_2,hfz8_3⟩:=ce4_ BK193)|((with_reducible refine gate_callee (f:=55) rfl ?_);refine gl_ (some 14) Tryd.func55 #[.slice A192_3 ((rd_T50 l0 x8_1).f2).length c192_3] ?_;(with_reducible refine (api_Sub_55.calls _ _ ((rd_T50 l0 x8_1).f2) t194 _ ?side1 ?side2 A5.out).mono ?_);(case side1=>exact Kd.C_below HR192_3.out b0_);(case side2=>exact HC192_3.out);rintro e w9 ⟨v195,rfl,ho0,hb⟩;refine ⟨_,rfl,?_⟩;have n_:=as4_ (Kd.S_elder' (by (with_reducible repeat (first|apply Kd.S_alloc|apply Kd.S_drewN|apply Kd.S_drew));exact (Kd.S_mono (Kd.S_far (p:=⟨gb193,3,none⟩) (Kd.S_far (p:=⟨gb193,2,none⟩) (Kd.S_far (p:=⟨gb193,1,none⟩) (Kd.S_far (p:=⟨gb193,0,none⟩) (Kd.S_mono HO_3.out (fun k_ hk=>(⟨hk,hk.2⟩:_∧k_≠gb193))) (fun _ hk=>hk.2) (.string ((rd_T50 l0 x8_1).f0))) (fun _ hk=>hk.2) (.int .u8 ((rd_T50 l0 x8_1).f1.f0))) (fun _ hk=>hk.2) (.int .u8 ((rd_T50 l0 x8_1).f1.f1))) (fun _ hk=>hk.2) (.slice A192_3 ((rd_T50 l0 x8_1).f2).length c192_3)) (fun _ h_=>h_.1))) (Kd.R_base ho0) hb) (Kd.R_lower ho0 (below_size b0_)) (blk_below (g:=gb193) (o:= .cells #[.string ((rd_T50 l0 x8_1).f0),.int .u8 ((rd_T50 l0 x8_1).f1.f0),.int .u8 ((rd_T50 l0 x8_1).f1.f1),.slice A192_3 ((rd_T50 l0 x8_1).f2).length c192_3] 50 (0,0)) (by (with_reducible repeat (first|refine blk_drewN ?_ _|refine blk_drew ?_|refine blk_alloc ?_ _));refine blk_put (cs:=#[.string ((rd_T50 l0 x8_1).f0),.int .u8 ((rd_T50 l0 x8_1).f1.f0),.int .u8 ((rd_T50 l0 x8_1).f1.f1),.slice none 0 0]) ?_ 3 _ rfl;(with_reducible repeat (first|refine blk_drewN ?_ _|refine blk_drew ?_|refine blk_alloc ?_ _));refine blk_put (cs:=#[.string ((rd_T50 l0 x8_1).f0),.int .u8 ((rd_T50 l0 x8_1).f1.f0),.int .u8 0,.slice none 0 0]) ?_ 2 _ rfl;(with_reducible repeat (first|refine blk_drewN ?_ _|refine blk_drew ?_|refine blk_alloc ?_ _));refine blk_put (cs:=#[.string ((rd_T50 l0 x8_1).f0),.int .u8 0,.int .u8 0,.slice none 0 0]) ?_ 1 _ rfl;(with_reducible repeat (first|refine blk_drewN ?_ _|refine blk_drew ?_|refine blk_alloc ?_ _));refine blk_put (cs:=#[.string (⟨#[]⟩:ByteArray),.int .u8 0,.int .u8 0,.slice none 0 0]) ?_ 0 _ rfl;(with_reducible repeat (first|refine blk_drewN ?_ _|refine blk_drew ?_|refine blk_alloc ?_ _));exact BK193.out) hb) (below_step b0_ hb);clear HO_3 BK193 HB;obtain ⟨HO_3,HO196,BK193,HB⟩:=n_;(try clear hb);(try clear hk);(try clear ho0);obtain ⟨Ao10,co10,eo10⟩:=Kd.R_slice HO196.out;subst eo10;obtain ⟨hcz11_0,hcz11_1,hcz11_2,hcz11_3,hfz11_0,hfz11_1,hfz11_2,hfz11_3⟩:=ce4_ BK193)|((with_reducible refine gate_store (t:=48) (p:=15) rfl ?_);refine store_event (t:=48) (p:=15) (v:=?vo_w12) (w1:=(w9.setCell ⟨gb193,3,none⟩ (.slice Ao10 t194.length co10))) ?hg ?ho ?hn ?hr ?_;(case ho=>rfl);(case hg=>rfl);(case hn=>rfl);(case hr=>first|(go_simp;done)|(go_simp;rfl));intro w12 hw;have n0_:Aside0 (Kd.S k50 50 w12 w.heap.size (fun k_=>some k_≠(.slice Ao10 t194.length co10:Value).ownBlock∧k_≠gb193) u3 x3_1):=⟨(by rw [hw];exact (by (with_reducible repeat (first|apply Kd.S_alloc|apply Kd.S_drewN|apply Kd.S_drew));exact Kd.S_mono (Kd.S_far (p:=⟨gb193,3,none⟩) (Kd.S_mono HO_3.out (fun k_ hk=>(⟨hk,hk.1.2⟩:_∧k_≠gb193))) (fun _ hk=>hk.2) (.slice Ao10 t194.length co10)) (fun _ hk=>⟨hk.1.2,hk.1.1.2⟩)))⟩;have n1_:Aside0 (Kd.R k55 55 w12 w.heap.size (fun _=>True) (.slice Ao10 t194.length co10) t194):=⟨(by rw [hw];exact (by (with_reducible repeat (first|apply Kd.R_alloc|apply Kd.R_drewN|apply Kd.R_drew));exact Kd.R_mono (Kd.R_far (p:=⟨gb193,3,none⟩) (Kd.R_types HO196.out BK193.out (by decide)) (fun _ hk=>hk.2) (.slice Ao10 t194.length co10)) (fun _ hk=>trivial)))⟩;have n2_:Aside0 (w12.heap[gb193]?=some (.cells #[.string ((rd_T50 l0 x8_1).f0),.int .u8 ((rd_T50 l0 x8_1).f1.f0),.int .u8 ((rd_T50 l0 x8_1).f1.f1),.slice Ao10 t194.length co10] 50 (0,0))):=⟨(by rw [hw];exact (by (with_reducible repeat (first|refine blk_drewN ?_ _|refine blk_drew ?_|refine blk_alloc ?_ _));refine blk_put (cs:=#[.string ((rd_T50 l0 x8_1).f0),.int .u8 ((rd_T50 l0 x8_1).f1.f0),.int .u8 ((rd_T50 l0 x8_1).f1.f1),.slice A192_3 ((rd_T50 l0 x8_1).f2).length c192_3]) ?_ 3 _ rfl;(with_reducible repeat (first|refine blk_drewN ?_ _|refine blk_drew ?_|refine blk_alloc ?_ _));exact BK193.out))⟩;have n3_:Aside0 (Below w.heap.size w w12):=⟨(by rw [hw];exact b0_)⟩;clear hw HO_3 HO196 BK193;clear HB;have HO_3:=n0_;have HO196:=n1_;have BK193:=n2_;have HB:=n3_;clear n0_ n1_ n2_ n3_;obtain ⟨hcz13_0,hcz13_1,hcz13_2,hcz13_3,hfz13_0,hfz13_1,hfz13_2,hfz13_3⟩:=ce4_ BK193)|((with_reducible refine gate_builtin (b:= .append) (xs:=#[.tmp 16,.tmp 18]) rfl ?_);at_builtin;refine Kd.S_append k50 (w0:=w) w.heap.size rfl (.tmp 16) (.tmp 18) 22 50 (.agg #[(.string ⟨#[]⟩),(.int .u8 0),(.int .u8 0),(.slice none 0 0)]) 48 rfl Tryd.underlying22 info50 rfl (by decide) (by omega) u3 x3_1 (⟨(rd_T50 l0 x8_1).f0,(⟨(rd_T50 l0 x8_1).f1.f0,(rd_T50 l0 x8_1).f1.f1⟩:S47),t194⟩:S50) [.string ((rd_T50 l0 x8_1).f0),.int .u8 ((rd_T50 l0 x8_1).f1.f0),.int .u8 ((rd_T50 l0 x8_1).f1.f1),.slice Ao10 t194.length co10] (fun k_=>k_≠gb193) (fun k_=>some k_=(.slice Ao10 t194.length co10:Value).ownBlock) rfl rfl ?aP (fun k_ hk_=>((Kd.R_mono (ok':=fun k_=>((fun k_=>k_≠gb193)) k_∧some k_≠(u3:Value).ownBlock) (Kd.R_types (Kd.R_apart' (HO196.out) (Kd.S_typed HO_3.out) (by decide)) BK193.out (by decide)) (fun k_ hk=>⟨hk.2,hk.1.2⟩))).1 k_ hk_.symm) ?aF ?aO ?aB ?aS ?aL ?_;(case aP=>exact k50_mkM _ _ _ (⟨(rd_T50 l0 x8_1).f0,(⟨(rd_T50 l0 x8_1).f1.f0,(rd_T50 l0 x8_1).f1.f1⟩:S47),t194⟩:S50) (Kd.R_mono (Kd.R_tight rfl (Kd.R_mono (ok':=fun k_=>((fun k_=>k_≠gb193)) k_∧some k_≠(u3:Value).ownBlock) (Kd.R_types (Kd.R_apart' (HO196.out) (Kd.S_typed HO_3.out) (by decide)) BK193.out (by decide)) (fun k_ hk=>⟨hk.2,hk.1.2⟩))) (fun _ h_=>h_)));(case aB=>exact b0_);(case aF=>exact (fun k_ hk=>Kd.freshB (g:=gb193) (o:= .cells #[.string ((rd_T50 l0 x8_1).f0),.int .u8 ((rd_T50 l0 x8_1).f1.f0),.int .u8 ((rd_T50 l0 x8_1).f1.f1),.slice Ao10 t194.length co10] 50 (0,0)) k0_ k_ hk));(case aO=>exact (by (with_reducible repeat (first|apply Kd.S_alloc|apply Kd.S_drewN|apply Kd.S_drew));exact Kd.S_mono HO_3.out (fun k_ hk=>⟨hk.2,fun e_=>hk.1 e_⟩)));(case aS=>exact (below_size b0_));(case aL=>have:=LMc6.out;omega);intro v198 w14 ho hb hg hat;rw [←Ny197.out] at ho;have n_:=as3_ (blk_grown (g:=gb193) (o:= .cells #[.string ((rd_T50 l0 x8_1).f0),.int .u8 ((rd_T50 l0 x8_1).f1.f0),.int .u8 ((rd_T50 l0 x8_1).f1.f1),.slice Ao10 t194.length co10] 50 (0,0)) k0_ hg (Kd.S_away HO_3.out (fun _ hk=>hk.2))) (hb) (ho);clear BK193 HB HO_3 HO196;obtain ⟨BK193,HB,HO199⟩:=n_;clear ho hb hg hat))
 go_roundg k1
 case measure=>have:=HK1.out;omega
 case rel=>exact ⟨(y197),(wrap64 (x8_1+1)),r0_,H',⟨by have:=HK1.out;omega⟩,⟨by (with_reducible repeat (first|apply Kd.S_alloc|apply Kd.S_drewN|apply Kd.S_drew));exact Kd.S_mono HO199.out (fun _ hk=>trivial)⟩,⟨b0_⟩⟩
 }
 {
 rw [if_neg c6] at H
 exact absurd H (by simp)
 }
 }
 {
 rw [if_neg c4] at H
 exact absurd H (by simp)
 }
 }
 {
 rw [if_neg c3] at H
 exact absurd H (by simp)
 }
 }
 {
 rw [if_neg c2] at H
 have c2b0:decide (x8_1<(l0.length:Int))=false:=decide_eq_false c2
 clear c2
 obtain rfl:=Option.some.inj H
 go_wp2
 go_ret
 exact ⟨_,r1_,by (with_reducible repeat (first|apply Kd.S_alloc|apply Kd.S_drewN|apply Kd.S_drew));exact HO_3.out,b0_⟩
 }
  )
  )
end
end Go.Proofs.YtdlolaognnbhpaaDoor.Pr
