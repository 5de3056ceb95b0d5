/- A part of the proof of laws of this seat: PatchDiff. Conditions: none of our own. -/
import Derived.Test.YtdlolaognnbhpaaDoorK14
import Derived.Test.YtdlolaognnbhpaaDoorK21
import Derived.Test.YtdlolaognnbhpaaDoorK22
namespace Go.Proofs.YtdlolaognnbhpaaDoor.Pr
open Go.RowKit Go.Proofs.YtdlolaognnbhpaaDoorW.PrintWords Go.Proofs.YtdlolaognnbhpaaDoorW.PrintLast Go.Proofs.YtdlolaognnbhpaaDoorW.PrintMore
noncomputable section
attribute [local go_sem] max2_int min2_int max_two min_two max_three min_three max_four min_four
set_option linter.unusedVariables false
set_option linter.unusedSimpArgs false
def bookplatelaw18_PatchDiff.j0:Nat→Bool→Int→List (S50)→Int→List (S50)→Option (Bool)
 |0,_,_,_,_,_=>none
 |k+1,x18,x422000,x422001,x423000,x423001=>if x18=true then (some true) else ((patch_Diff.f k x422000 x422001 x423000 x423001).bind fun bt426=>((bookplateref18_Diff.f k x422000 x422001 x423000 x423001).bind fun bt430=>((bookplatelaw18_Theirs.f k bt426.1).bind fun t434=>((bookplateref18_Same.f k t434 bt430.1).bind fun t437=>(if t437=true then (some (bt426.2==bt430.2)) else (none))))))
def bookplatelaw18_PatchDiff.f (k:Nat) (a0_0:Int) (l0_1:List (S50)) (a1_0:Int) (l1_1:List (S50)):Option (Bool):=(bookplatelaw18_awake.f k).bind fun t423=>(if t423=true then ((bookplateref12_Few.f k a0_0 l0_1 61).bind fun t424=>(if t424=true then ((bookplateref12_Few.f k a1_0 l1_1 12).bind fun t425=>(bookplatelaw18_PatchDiff.j0 k (!t425) a0_0 l0_1 a1_0 l1_1)) else (bookplatelaw18_PatchDiff.j0 k true a0_0 l0_1 a1_0 l1_1))) else (none))
set_option maxHeartbeats 8000000 in
set_option maxRecDepth 100000 in
theorem bookplatelaw18_PatchDiff.calls (k:Nat) (a0_0:Int) (A0_1:Option Addr) (c0_1:Nat) (l0_1:List (S50)) (a1_0:Int) (A1_1:Option Addr) (c1_1:Nat) (l1_1:List (S50)) (r:Bool) (w:World) (hT:PTabs w) (hr0_1:Kd.C k50 w A0_1 l0_1.length l0_1) (hc0_1:l0_1.length≤c0_1) (hr1_1:Kd.C k50 w A1_1 l1_1.length l1_1) (hc1_1:l1_1.length≤c1_1) (h:bookplatelaw18_PatchDiff.f k a0_0 l0_1 a1_0 l1_1=some r):
 Calls Tryd.prog 3 #[.agg #[.int .i64 a0_0,.slice A0_1 l0_1.length c0_1],.agg #[.int .i64 a1_0,.slice A1_1 l1_1.length c1_1]] w fun e w'=>e= .returned (.bool r)∧Below w.heap.size w w':=by
 have hu24:=Tryd.underlying24
 have HR0_1:=Aside0.mk hr0_1
 have HC0_1:=Aside0.mk hc0_1
 clear hr0_1 hc0_1
 have HR1_1:=Aside0.mk hr1_1
 have HC1_1:=Aside0.mk hc1_1
 clear hr1_1 hc1_1
 have HB:=Aside0.mk (Below.refl w.heap.size w)
 have HT:=Aside0.mk hT
 clear hT
 have H:((bookplatelaw18_awake.f k).bind fun t423=>(if t423=true then ((bookplateref12_Few.f k a0_0 l0_1 61).bind fun t424=>(if t424=true then ((bookplateref12_Few.f k a1_0 l1_1 12).bind fun t425=>(bookplatelaw18_PatchDiff.j0 k (!t425) a0_0 l0_1 a1_0 l1_1)) else (bookplatelaw18_PatchDiff.j0 k true a0_0 l0_1 a1_0 l1_1))) else (none)))=some r:=h
 clear h
 obtain ⟨t423,A3,H⟩:=ob_ H
 by_cases c4:t423=true
 {
 subst c4
 replace H:=tp_ H
 have HC5:=Aside0.mk H
 clear H
 go_enter Tryd.func3,Tryd.ntmps3
 go_upto_region 3 with (first|((with_reducible refine gate_dst (N:=2) rfl ?_);refine bx_ (N:=2) (cs:=#[.int .i64 a0_0,.slice A0_1 l0_1.length c0_1]) (t:=24) ?_;intro gb421 hg w6 hbox hb;have n_:=as4_ (below_step b0_ hb) (hbox) ((g0_ hg b0_:w.heap.size≤gb421)) ((g0_ hg b0_:w.heap.size≤gb421));clear HB;obtain ⟨HB,BK421,GW421,GE421⟩:=n_;clear hb hbox hg)|((with_reducible refine gate_dst (N:=3) rfl ?_);refine bx_ (N:=3) (cs:=#[.int .i64 a1_0,.slice A1_1 l1_1.length c1_1]) (t:=24) ?_;intro gb422 hg w7 hbox hb;have n_:=as7_ (bb_ BK421 hb) (below_step b0_ hb) (hbox) ((g0_ hg b0_:w.heap.size≤gb422)) ((g0_ hg b0_:w.heap.size≤gb422)) ((g1_ hg k0_:gb421≠gb422)) ((g2_ hg k0_:gb422≠gb421));clear BK421 HB;obtain ⟨BK421,HB,BK422,GW422,GE422,NB421_422,NB422_421⟩:=n_;clear hb hbox hg)|((with_reducible refine gate_callee (f:=7) rfl ?_);refine gl_ (some 9) Tryd.func7 #[] ?_;(with_reducible refine (bookplatelaw18_awake.calls k true _ ?side1 A3.out).mono ?_);(case side1=>exact PTabs.step HT.out b0_);rintro e w8 ⟨rfl,hb⟩;refine ⟨_,rfl,?_⟩;have n_:=as3_ (bb_ BK421 hb) (bb_ BK422 hb) (below_step b0_ hb);clear BK421 BK422 HB;obtain ⟨BK421,BK422,HB⟩:=n_;(try clear hb)))
 (try simp only [Act.put,List.setIfInBounds_toArray,List.set_cons_zero,List.set_cons_succ])
 go_cut [18] (fun v18 wc=>∃ (kq:Nat) (x18_4:Bool),v18= .bool x18_4∧Aside0 (bookplatelaw18_PatchDiff.j0 kq x18_4 a0_0 l0_1 a1_0 l1_1=some r)∧Aside0 (kq≤k)∧Aside0 (wc.heap[gb421]?=some (.cells #[.int .i64 a0_0,(.slice A0_1 l0_1.length c0_1)] 24 (0,0)))∧Aside0 (wc.heap[gb422]?=some (.cells #[.int .i64 a1_0,(.slice A1_1 l1_1.length c1_1)] 24 (0,0)))∧Aside0 (Below w.heap.size w wc))
 case first=>
  (
 have H:=HC5.out
 clear HC5
 obtain ⟨t424,A9,H⟩:=ob_ H
 by_cases c10:t424=true
 {
 subst c10
 replace H:=tp_ H
 obtain ⟨t425,A11,H⟩:=ob_ H
 have H':=Aside0.mk H
 clear H
 have hnb12:=NB421_422.out
 have hnc12:=NB422_421.out
 have hcz13_0:w8.cell? ⟨gb421,0,none⟩=some (.int .i64 a0_0):=(blk_cell BK421.out 0).trans rfl;have hcz13_1:w8.cell? ⟨gb421,1,none⟩=some (.slice A0_1 l0_1.length c0_1):=(blk_cell BK421.out 1).trans rfl
 have hfz13_0:=blk_frozen BK421.out 0
 have hfz13_1:=blk_frozen BK421.out 1
 go_wp2_with (first|((with_reducible refine gate_callee (f:=8) rfl ?_);refine gl_ (some 12) Tryd.func8 #[.agg #[.int .i64 a0_0,.slice A0_1 l0_1.length c0_1],.int .i64 61] ?_;(with_reducible refine (bookplateref12_Few.calls k a0_0 _ _ l0_1 61 true _ ?side1 ?side2 A9.out).mono ?_);(case side1=>exact c0_);(case side2=>exact HC0_1.out);rintro e w14 ⟨rfl,hb⟩;refine ⟨_,rfl,?_⟩;have n_:=as3_ (bb_ BK421 hb) (bb_ BK422 hb) (below_step b0_ hb);clear BK421 BK422 HB;obtain ⟨BK421,BK422,HB⟩:=n_;(try clear hb);obtain ⟨hcz15_0,hcz15_1,hfz15_0,hfz15_1⟩:=ce2_ BK422)|(go_at_call 8;(with_reducible refine (bookplateref12_Few.calls k a1_0 _ _ l1_1 12 t425 _ ?side1 ?side2 A11.out).mono ?_);(case side1=>exact c0_);(case side2=>exact HC1_1.out);rintro e w16 ⟨rfl,hb⟩;have n_:=as3_ (bb_ BK421 hb) (bb_ BK422 hb) (below_step b0_ hb);clear BK421 BK422 HB;obtain ⟨BK421,BK422,HB⟩:=n_;(try clear hb)))
 go_meet
 case rel=>exact ⟨_,(!t425),r0_,H',⟨by first|omega|exact Nat.le_refl _⟩,⟨k0_⟩,⟨k0_⟩,⟨b0_⟩⟩
 }
 {
 replace c10:=Bool.eq_false_iff.mpr c10
 subst c10
 replace H:=fn_ H
 have H':=Aside0.mk H
 clear H
 have hnb17:=NB421_422.out
 have hnc17:=NB422_421.out
 have hcz18_0:w8.cell? ⟨gb421,0,none⟩=some (.int .i64 a0_0):=(blk_cell BK421.out 0).trans rfl;have hcz18_1:w8.cell? ⟨gb421,1,none⟩=some (.slice A0_1 l0_1.length c0_1):=(blk_cell BK421.out 1).trans rfl
 have hfz18_0:=blk_frozen BK421.out 0
 have hfz18_1:=blk_frozen BK421.out 1
 go_wp2_with (first|((with_reducible refine gate_callee (f:=8) rfl ?_);refine gl_ (some 12) Tryd.func8 #[.agg #[.int .i64 a0_0,.slice A0_1 l0_1.length c0_1],.int .i64 61] ?_;(with_reducible refine (bookplateref12_Few.calls k a0_0 _ _ l0_1 61 false _ ?side1 ?side2 A9.out).mono ?_);(case side1=>exact c0_);(case side2=>exact HC0_1.out);rintro e w19 ⟨rfl,hb⟩;refine ⟨_,rfl,?_⟩;have n_:=as3_ (bb_ BK421 hb) (bb_ BK422 hb) (below_step b0_ hb);clear BK421 BK422 HB;obtain ⟨BK421,BK422,HB⟩:=n_;(try clear hb)))
 go_meet
 case rel=>exact ⟨_,(true),r0_,H',⟨by first|omega|exact Nat.le_refl _⟩,⟨k0_⟩,⟨k0_⟩,⟨b0_⟩⟩
 }
  )
 case rest=>
  (
 clear HC5
 try clear c1
 try clear p2
 try clear c3
 try clear c4
 try clear c7
 try clear c8
 try clear c10
 try clear c12
 try clear c17
 try clear hcz13_0
 try clear hcz13_1
 try clear hcz15_0
 try clear hcz15_1
 try clear hcz18_0
 try clear hcz18_1
 try clear hfz13_0
 try clear hfz13_1
 try clear hfz15_0
 try clear hfz15_1
 try clear hfz18_0
 try clear hfz18_1
 obtain ⟨kq,x18_4,rfl,HA,HJ4,BK421,BK422,HB⟩:=hcut
 cases kq with
 |zero=>exact absurd HA.out (by simp [bookplatelaw18_PatchDiff.j0])
 |succ kj4=>
  (
 have H:=HA.out
 clear HA
 simp only [bookplatelaw18_PatchDiff.j0] at H
 by_cases c20:x18_4=true
 {
 subst c20
 replace H:=tp_ H
 obtain rfl:=Option.some.inj H
 go_wp2
 go_ret
 exact ⟨r1_,b0_⟩
 }
 {
 replace c20:=Bool.eq_false_iff.mpr c20
 subst c20
 replace H:=fn_ H
 replace H:=Option.bind_eq_some_iff.mp H
 obtain ⟨⟨t426,t429⟩,A210,H⟩:=H
 replace H:((bookplateref18_Diff.f kj4 a0_0 l0_1 a1_0 l1_1).bind fun bt430=>((bookplatelaw18_Theirs.f kj4 t426).bind fun t434=>((bookplateref18_Same.f kj4 t434 bt430.1).bind fun t437=>(if t437=true then (some (t429==bt430.2)) else (none)))))=some r:=H
 have A21:=Aside0.mk A210
 clear A210
 replace H:=Option.bind_eq_some_iff.mp H
 obtain ⟨⟨t430,t433⟩,A220,H⟩:=H
 replace H:((bookplatelaw18_Theirs.f kj4 t426).bind fun t434=>((bookplateref18_Same.f kj4 t434 t430).bind fun t437=>(if t437=true then (some (t429==t433)) else (none))))=some r:=H
 have A22:=Aside0.mk A220
 clear A220
 obtain ⟨t434,A23,H⟩:=ob_ H
 obtain ⟨t437,A24,H⟩:=ob_ H
 by_cases c25:t437=true
 {
 subst c25
 replace H:=tp_ H
 obtain rfl:=Option.some.inj H
 have hnb26:=NB421_422.out
 have hnc26:=NB422_421.out
 have hcz27_0:wc.cell? ⟨gb421,0,none⟩=some (.int .i64 a0_0):=(blk_cell BK421.out 0).trans rfl;have hcz27_1:wc.cell? ⟨gb421,1,none⟩=some (.slice A0_1 l0_1.length c0_1):=(blk_cell BK421.out 1).trans rfl
 have hfz27_0:=blk_frozen BK421.out 0
 have hfz27_1:=blk_frozen BK421.out 1;have hcz28_0:wc.cell? ⟨gb422,0,none⟩=some (.int .i64 a1_0):=(blk_cell BK422.out 0).trans rfl;have hcz28_1:wc.cell? ⟨gb422,1,none⟩=some (.slice A1_1 l1_1.length c1_1):=(blk_cell BK422.out 1).trans rfl
 have hfz28_0:=blk_frozen BK422.out 0
 have hfz28_1:=blk_frozen BK422.out 1
 go_wp2_with (first|((with_reducible refine gate_callee (f:=9) rfl ?_);refine gl_ (some 22) Tryd.func9 #[.agg #[.int .i64 a0_0,.slice A0_1 l0_1.length c0_1],.agg #[.int .i64 a1_0,.slice A1_1 l1_1.length c1_1]] ?_;(with_reducible refine (patch_Diff.calls kj4 a0_0 _ _ l0_1 a1_0 _ _ l1_1 t426 t429 _ ?side5 ?side1 ?side2 ?side3 ?side4 A21.out).mono ?_);(case side1=>exact c0_);(case side2=>exact HC0_1.out);(case side3=>exact c0_);(case side4=>exact HC1_1.out);(case side5=>exact PTabs.step HT.out b0_);rintro e w29 ⟨v427,rfl,ho0,hb⟩;refine ⟨_,rfl,?_⟩;have n_:=as4_ (Kd.N_lower (Kd.N_mono (ok':=fun k_=>k_≠gb421∧k_≠gb422) (Kd.R_N (Kd.R_bound ho0)) (fun k_ hk_=>⟨(Kd.freshB (g:=gb421) (o:= .cells #[.int .i64 a0_0,.slice A0_1 l0_1.length c0_1] 24 (0,0)) k0_ k_ hk_.2.1),(Kd.freshB (g:=gb422) (o:= .cells #[.int .i64 a1_0,.slice A1_1 l1_1.length c1_1] 24 (0,0)) k0_ k_ hk_.2.1)⟩)) (below_size b0_)) (bb_ BK421 hb) (bb_ BK422 hb) (below_step b0_ hb);clear BK421 BK422 HB;obtain ⟨HO428,BK421,BK422,HB⟩:=n_;(try clear hb);(try clear ho0);obtain ⟨hcz30_0,hcz30_1,hfz30_0,hfz30_1⟩:=ce2_ BK421;obtain ⟨hcz31_0,hcz31_1,hfz31_0,hfz31_1⟩:=ce2_ BK422)|((with_reducible refine gate_callee (f:=10) rfl ?_);refine gl_ (some 28) Tryd.func10 #[.agg #[.int .i64 a0_0,.slice A0_1 l0_1.length c0_1],.agg #[.int .i64 a1_0,.slice A1_1 l1_1.length c1_1]] ?_;(with_reducible refine (bookplateref18_Diff.calls kj4 a0_0 _ _ l0_1 a1_0 _ _ l1_1 t430 t433 _ ?side1 ?side2 ?side3 ?side4 A22.out).mono ?_);(case side1=>exact c0_);(case side2=>exact HC0_1.out);(case side3=>exact c0_);(case side4=>exact HC1_1.out);rintro e w32 ⟨v431,rfl,ho0,hb⟩;refine ⟨_,rfl,?_⟩;have n_:=as5_ (Kd.N_elder' (xN_ HO428) (by first|exact Kd.N_base ho0|exact Kd.S_base ho0|exact Kd.R_base ho0) hb) (Kd.N_lower (Kd.N_mono (ok':=fun k_=>some k_≠(v427:Value).ownBlock∧k_≠gb421∧k_≠gb422) (Kd.R_N (Kd.R_bound ho0)) (fun k_ hk_=>⟨(Kd.fresh' (Kd.N_lt (xN_ HO428)) k_ hk_.2.1),(Kd.freshB (g:=gb421) (o:= .cells #[.int .i64 a0_0,.slice A0_1 l0_1.length c0_1] 24 (0,0)) k0_ k_ hk_.2.1),(Kd.freshB (g:=gb422) (o:= .cells #[.int .i64 a1_0,.slice A1_1 l1_1.length c1_1] 24 (0,0)) k0_ k_ hk_.2.1)⟩)) (below_size b0_)) (bb_ BK421 hb) (bb_ BK422 hb) (below_step b0_ hb);clear HO428 BK421 BK422 HB;obtain ⟨HO428,HO432,BK421,BK422,HB⟩:=n_;(try clear hb);(try clear ho0);obtain ⟨Ao33,co33,eo33⟩:=Kd.N_slice HO428.out;subst eo33)|((with_reducible refine gate_callee (f:=12) rfl ?_);refine gl_ (some 32) Tryd.func12 #[.slice Ao33 t426.length co33] ?_;(with_reducible refine (bookplatelaw18_Theirs.calls kj4 (fun k_=>((k_≠gb421∧k_≠gb422)∧some k_≠(v431:Value).ownBlock)) _ _ t426 t434 _ ?side1 A23.out).mono ?_);(case side1=>exact Kd.N_V (HO428.out));rintro e w34 ⟨v435,rfl,ho0,hb⟩;refine ⟨_,rfl,?_⟩;have n_:=as6_ (Kd.N_elder' (xN_ HO428) (by first|exact Kd.N_base ho0|exact Kd.S_base ho0|exact Kd.R_base ho0) hb) (Kd.N_elder' (xN_ HO432) (by first|exact Kd.N_base ho0|exact Kd.S_base ho0|exact Kd.R_base ho0) hb) (Kd.N_lower (Kd.N_mono (ok':=fun k_=>some k_≠(v431:Value).ownBlock∧k_≠gb421∧k_≠gb422) ho0 (fun k_ hk_=>⟨Or.elim hk_ (fun hs_=>hs_.2) (fun hn_=>(Kd.fresh' (Kd.N_lt (xN_ HO432)) k_ hn_)),Or.elim hk_ (fun hs_=>hs_.1.1) (fun hn_=>(Kd.freshB (g:=gb421) (o:= .cells #[.int .i64 a0_0,.slice A0_1 l0_1.length c0_1] 24 (0,0)) k0_ k_ hn_)),Or.elim hk_ (fun hs_=>hs_.1.2) (fun hn_=>(Kd.freshB (g:=gb422) (o:= .cells #[.int .i64 a1_0,.slice A1_1 l1_1.length c1_1] 24 (0,0)) k0_ k_ hn_))⟩)) (below_size b0_)) (bb_ BK421 hb) (bb_ BK422 hb) (below_step b0_ hb);clear HO428 HO432 BK421 BK422;clear HB;obtain ⟨HO428,HO432,HO436,BK421,BK422,HB⟩:=n_;(try clear hb);(try clear ho0);obtain ⟨Ao35,co35,eo35⟩:=Kd.N_slice HO436.out;subst eo35;obtain ⟨Ao36,co36,eo36⟩:=Kd.N_slice HO432.out;subst eo36)|((with_reducible refine gate_callee (f:=11) rfl ?_);refine gl_ (some 34) Tryd.func11 #[.slice Ao35 t434.length co35,.slice Ao36 t430.length co36] ?_;(with_reducible refine (bookplateref18_Same.calls kj4 _ _ t434 _ _ t430 true _ ?side1 ?side2 ?side3 ?side4 A24.out).mono ?_);(case side1=>repeat (first|exact (Kd.N_reads' HO436.out).2.2|(with_reducible refine Kd.C_alloc ?_ _)|(with_reducible refine Kd.C_drewN ?_ _)|(with_reducible refine Kd.C_drew ?_)));(case side2=>exact (Kd.N_reads' HO436.out).2.1);(case side3=>repeat (first|exact (Kd.N_reads' HO432.out).2.2|(with_reducible refine Kd.C_alloc ?_ _)|(with_reducible refine Kd.C_drewN ?_ _)|(with_reducible refine Kd.C_drew ?_)));(case side4=>exact (Kd.N_reads' HO432.out).2.1);rintro e w37 ⟨rfl,hb⟩;refine ⟨_,rfl,?_⟩;have n_:=as6_ (Kd.N_below (xN_ HO428) hb) (Kd.N_below (xN_ HO432) hb) (Kd.N_below (xN_ HO436) hb) (bb_ BK421 hb) (bb_ BK422 hb) (below_step b0_ hb);clear HO428 HO432 HO436 BK421;clear BK422 HB;obtain ⟨HO428,HO432,HO436,BK421,BK422,HB⟩:=n_;(try clear hb)))
 go_ret
 exact ⟨r1_,b0_⟩
 }
 {
 replace c25:=Bool.eq_false_iff.mpr c25
 subst c25
 replace H:=fn_ H
 exact absurd H (by simp)
 }
 }
  )
  )
 }
 {
 replace c4:=Bool.eq_false_iff.mpr c4
 subst c4
 replace H:=fn_ H
 exact absurd H (by simp)
 }
end
end Go.Proofs.YtdlolaognnbhpaaDoor.Pr
