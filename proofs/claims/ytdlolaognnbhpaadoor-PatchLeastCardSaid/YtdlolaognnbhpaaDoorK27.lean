/- A part of the proof of laws of this seat: PatchLeast. Conditions: none of our own. -/
import Derived.Test.YtdlolaognnbhpaaDoorK14
import Derived.Test.YtdlolaognnbhpaaDoorK17
import Derived.Test.YtdlolaognnbhpaaDoorK25
import Derived.Test.YtdlolaognnbhpaaDoorK26
namespace Go.Proofs.YtdlolaognnbhpaaDoor.Pr
open Go.RowKit Go.Proofs.YtdlolaognnbhpaaDoorW.PrintWords Go.Proofs.YtdlolaognnbhpaaDoorW.PrintLast Go.Proofs.YtdlolaognnbhpaaDoorW.PrintMore
noncomputable section
attribute [local go_sem] max2_int min2_int max_two min_two max_three min_three max_four min_four
set_option linter.unusedVariables false
set_option linter.unusedSimpArgs false
def bookplatelaw18_PatchLeast.j0:Nat→List (S60)→Bool→Int→List (S50)→Option (Bool)
 |0,_,_,_,_=>none
 |k+1,x1,x18,x449000,x449001=>if x18=true then (some true) else ((bookplatelaw18_Own.f k x1).bind fun t452=>((patch_Apply.f k x449000 x449001 t452).bind fun bt455=>(if bt455.2.2=0 then ((patch_Diff.f k x449000 x449001 bt455.1 bt455.2.1).bind fun bt461=>(if bt461.2=0 then ((patch_Size.f k bt461.1).bind fun t465=>((bookplatelaw18_Own.f k x1).bind fun t466=>((patch_Size.f k t466).bind fun t469=>(if t465≤t469 then ((bookplateref12_Valid.f k bt455.1 bt455.2.1).bind fun t470=>(if t470=true then (some (bt455.1==x449000)) else (none))) else (none))))) else (none))) else (some ((bt455.2.1.length:Int)==0)))))
def bookplatelaw18_PatchLeast.f (k:Nat) (a0_0:Int) (l0_1:List (S50)) (l1:List (S60)):Option (Bool):=(bookplatelaw18_awake.f k).bind fun t449=>(if t449=true then ((bookplateref12_Few.f k a0_0 l0_1 12).bind fun t450=>(if t450=true then ((bookplateref18_Few.f k l1).bind fun t451=>(bookplatelaw18_PatchLeast.j0 k l1 (!t451) a0_0 l0_1)) else (bookplatelaw18_PatchLeast.j0 k l1 true a0_0 l0_1))) else (none))
def bookplatelaw18_PatchLeast.T5:Bool×List (List Nat×List Nat):=(true,[([],[]),([],[]),([1],[1]),([0,2,2],[0,2]),([3],[3]),([4],[4]),([4],[4]),([],[]),([7,5,3,0,1,2,3,4,5,7],[5,7]),([6,8,0,1,2,3,4,5,6,7,8],[6])])
def bookplatelaw18_PatchLeast.B5:List Nat:=[0,0,2,7,15,31,31,0,191,511]
theorem bookplatelaw18_PatchLeast.tab5:rtab .any (opsOf Tryd.f4 5)=bookplatelaw18_PatchLeast.T5:=by kernel_rfl
theorem bookplatelaw18_PatchLeast.bits5:waitsOk bookplatelaw18_PatchLeast.T5.2 bookplatelaw18_PatchLeast.B5=true:=by kernel_rfl
set_option maxHeartbeats 8000000 in
set_option maxRecDepth 100000 in
theorem bookplatelaw18_PatchLeast.calls (k:Nat) (a0_0:Int) (A0_1:Option Addr) (c0_1:Nat) (l0_1:List (S50)) (A1:Option Addr) (c1:Nat) (l1:List (S60)) (r:Bool) (w:World) (hT:PTabs w) (hr0_1:Kd.C k50 w A0_1 l0_1.length l0_1) (hc0_1:l0_1.length≤c0_1) (hr1:Kd.C k60 w A1 l1.length l1) (hc1:l1.length≤c1) (h:bookplatelaw18_PatchLeast.f k a0_0 l0_1 l1=some r):
 Calls Tryd.prog 4 #[.agg #[.int .i64 a0_0,.slice A0_1 l0_1.length c0_1],.slice A1 l1.length c1] w fun e w'=>e= .returned (.bool r)∧Below w.heap.size w w':=by
 have hu24:=Tryd.underlying24
 have HR0_1:=Aside0.mk hr0_1
 have HC0_1:=Aside0.mk hc0_1
 clear hr0_1 hc0_1
 have HR1:=Aside0.mk hr1
 have HC1:=Aside0.mk hc1
 clear hr1 hc1
 have HB:=Aside0.mk (Below.refl w.heap.size w)
 have HT:=Aside0.mk hT
 clear hT
 have H:((bookplatelaw18_awake.f k).bind fun t449=>(if t449=true then ((bookplateref12_Few.f k a0_0 l0_1 12).bind fun t450=>(if t450=true then ((bookplateref18_Few.f k l1).bind fun t451=>(bookplatelaw18_PatchLeast.j0 k l1 (!t451) a0_0 l0_1)) else (bookplatelaw18_PatchLeast.j0 k l1 true a0_0 l0_1))) else (none)))=some r:=h
 clear h
 obtain ⟨t449,A3,H⟩:=ob_ H
 by_cases c4:t449=true
 {
 subst c4
 replace H:=tp_ H
 have HC5:=Aside0.mk H
 clear H
 go_enter Tryd.func4,Tryd.ntmps4
 go_upto_region 3 with (first|((with_reducible refine gate_dst (N:=2) rfl ?_);refine bx_ (N:=2) (cs:=#[.int .i64 a0_0,.slice A0_1 l0_1.length c0_1]) (t:=24) ?_;intro gb448 hg w6 hbox hb;have n_:=as4_ (below_step b0_ hb) (hbox) ((g0_ hg b0_:w.heap.size≤gb448)) ((g0_ hg b0_:w.heap.size≤gb448));clear HB;obtain ⟨HB,BK448,GW448,GE448⟩:=n_;clear hb hbox hg)|((with_reducible refine gate_callee (f:=7) rfl ?_);refine gl_ (some 9) Tryd.func7 #[] ?_;(with_reducible refine (bookplatelaw18_awake.calls k true _ ?side1 A3.out).mono ?_);(case side1=>exact PTabs.step HT.out b0_);rintro e w7 ⟨rfl,hb⟩;refine ⟨_,rfl,?_⟩;have n_:=as2_ (bb_ BK448 hb) (below_step b0_ hb);clear BK448 HB;obtain ⟨BK448,HB⟩:=n_;(try clear hb);(try clear hk)))
 (try simp only [Act.put,List.setIfInBounds_toArray,List.set_cons_zero,List.set_cons_succ])
 go_cut [18] (fun v18 wc=>∃ (kq:Nat) (x18_4:Bool),v18= .bool x18_4∧Aside0 (bookplatelaw18_PatchLeast.j0 kq l1 x18_4 a0_0 l0_1=some r)∧Aside0 (kq≤k)∧Aside0 (wc.heap[gb448]?=some (.cells #[.int .i64 a0_0,(.slice A0_1 l0_1.length c0_1)] 24 (0,0)))∧Aside0 (Below w.heap.size w wc))
 case first=>
  (
 have H:=HC5.out
 clear HC5
 obtain ⟨t450,A8,H⟩:=ob_ H
 by_cases c9:t450=true
 {
 subst c9
 replace H:=tp_ H
 obtain ⟨t451,A10,H⟩:=ob_ H
 have H':=Aside0.mk H
 clear H
 have hcz11_0:w7.cell? ⟨gb448,0,none⟩=some (.int .i64 a0_0):=(blk_cell BK448.out 0).trans rfl;have hcz11_1:w7.cell? ⟨gb448,1,none⟩=some (.slice A0_1 l0_1.length c0_1):=(blk_cell BK448.out 1).trans rfl
 have hfz11_0:=blk_frozen BK448.out 0
 have hfz11_1:=blk_frozen BK448.out 1
 go_wp2_with (first|((with_reducible refine gate_callee (f:=8) rfl ?_);refine gl_ (some 12) Tryd.func8 #[.agg #[.int .i64 a0_0,.slice A0_1 l0_1.length c0_1],.int .i64 12] ?_;(with_reducible refine (bookplateref12_Few.calls k a0_0 _ _ l0_1 12 true _ ?side1 ?side2 A8.out).mono ?_);(case side1=>exact c0_);(case side2=>exact HC0_1.out);rintro e w12 ⟨rfl,hb⟩;refine ⟨_,rfl,?_⟩;have n_:=as2_ (bb_ BK448 hb) (below_step b0_ hb);clear BK448 HB;obtain ⟨BK448,HB⟩:=n_;(try clear hb);(try clear hk))|(go_at_call 13;(with_reducible refine (bookplateref18_Few.calls k _ _ l1 t451 _ ?side1 ?side2 A10.out).mono ?_);(case side1=>exact c0_);(case side2=>exact HC1.out);rintro e w13 ⟨rfl,hb⟩;have n_:=as2_ (bb_ BK448 hb) (below_step b0_ hb);clear BK448 HB;obtain ⟨BK448,HB⟩:=n_;(try clear hb);(try clear hk)))
 go_meet
 case rel=>exact ⟨_,(!t451),r0_,H',⟨by first|omega|exact Nat.le_refl _⟩,⟨k0_⟩,⟨b0_⟩⟩
 }
 {
 replace c9:=Bool.eq_false_iff.mpr c9
 subst c9
 replace H:=fn_ H
 have H':=Aside0.mk H
 clear H
 have hcz14_0:w7.cell? ⟨gb448,0,none⟩=some (.int .i64 a0_0):=(blk_cell BK448.out 0).trans rfl;have hcz14_1:w7.cell? ⟨gb448,1,none⟩=some (.slice A0_1 l0_1.length c0_1):=(blk_cell BK448.out 1).trans rfl
 have hfz14_0:=blk_frozen BK448.out 0
 have hfz14_1:=blk_frozen BK448.out 1
 go_wp2_with (first|((with_reducible refine gate_callee (f:=8) rfl ?_);refine gl_ (some 12) Tryd.func8 #[.agg #[.int .i64 a0_0,.slice A0_1 l0_1.length c0_1],.int .i64 12] ?_;(with_reducible refine (bookplateref12_Few.calls k a0_0 _ _ l0_1 12 false _ ?side1 ?side2 A8.out).mono ?_);(case side1=>exact c0_);(case side2=>exact HC0_1.out);rintro e w15 ⟨rfl,hb⟩;refine ⟨_,rfl,?_⟩;have n_:=as2_ (bb_ BK448 hb) (below_step b0_ hb);clear BK448 HB;obtain ⟨BK448,HB⟩:=n_;(try clear hb);(try clear hk)))
 go_meet
 case rel=>exact ⟨_,(true),r0_,H',⟨by first|omega|exact Nat.le_refl _⟩,⟨k0_⟩,⟨b0_⟩⟩
 }
  )
 case rest=>
  (
 clear HC5
 try clear c1
 try clear p2
 try clear c4
 try clear c7
 try clear c8
 try clear c9
 try clear hcz11_0
 try clear hcz11_1
 try clear hcz14_0
 try clear hcz14_1
 try clear hfz11_0
 try clear hfz11_1
 try clear hfz14_0
 try clear hfz14_1
 obtain ⟨kq,x18_4,rfl,HA,HJ4,BK448,HB⟩:=hcut
 cases kq with
 |zero=>exact absurd HA.out (by simp [bookplatelaw18_PatchLeast.j0])
 |succ kj4=>
  (
 have H:=HA.out
 clear HA
 simp only [bookplatelaw18_PatchLeast.j0] at H
 by_cases c16:x18_4=true
 {
 subst c16
 replace H:=tp_ H
 obtain rfl:=Option.some.inj H
 go_wp2
 go_ret
 exact ⟨by first|rfl|((try rw [←Option.some.inj (A3.out.symm.trans A8.out)]);(try rw [←Option.some.inj (A3.out.symm.trans A10.out)]);(try rw [←Option.some.inj (A8.out.symm.trans A10.out)]);rfl)|(simp [errW_none,errW_some]<;>rfl)|(simp [*,errW_none,errW_some]<;>rfl),b0_⟩
 }
 {
 replace c16:=Bool.eq_false_iff.mpr c16
 subst c16
 replace H:=fn_ H
 obtain ⟨t452,A17,H⟩:=ob_ H
 replace H:=Option.bind_eq_some_iff.mp H
 obtain ⟨⟨t455,t456,t459⟩,A180,H⟩:=H
 replace H:(if t459=0 then ((patch_Diff.f kj4 a0_0 l0_1 t455 t456).bind fun bt461=>(if bt461.2=0 then ((patch_Size.f kj4 bt461.1).bind fun t465=>((bookplatelaw18_Own.f kj4 l1).bind fun t466=>((patch_Size.f kj4 t466).bind fun t469=>(if t465≤t469 then ((bookplateref12_Valid.f kj4 t455 t456).bind fun t470=>(if t470=true then (some (t455==a0_0)) else (none))) else (none))))) else (none))) else (some ((t456.length:Int)==0)))=some r:=H
 have A18:=Aside0.mk A180
 clear A180
 by_cases c19:t459=0
 {
 rw [if_pos c19] at H
 have c19b0:(t459==0)=true:=beq_iff_eq.mpr c19
 have c19b1:(t459 !=0)=false:=bne_eq_false_iff_eq.mpr c19
 clear c19
 replace H:=Option.bind_eq_some_iff.mp H
 obtain ⟨⟨t461,t464⟩,A200,H⟩:=H
 replace H:(if t464=0 then ((patch_Size.f kj4 t461).bind fun t465=>((bookplatelaw18_Own.f kj4 l1).bind fun t466=>((patch_Size.f kj4 t466).bind fun t469=>(if t465≤t469 then ((bookplateref12_Valid.f kj4 t455 t456).bind fun t470=>(if t470=true then (some (t455==a0_0)) else (none))) else (none))))) else (none))=some r:=H
 have A20:=Aside0.mk A200
 clear A200
 by_cases c21:t464=0
 {
 rw [if_pos c21] at H
 have c21b0:(t464==0)=true:=beq_iff_eq.mpr c21
 have c21b1:(t464 !=0)=false:=bne_eq_false_iff_eq.mpr c21
 clear c21
 obtain ⟨t465,A22,H⟩:=ob_ H
 obtain ⟨t466,A23,H⟩:=ob_ H
 obtain ⟨t469,A24,H⟩:=ob_ H
 by_cases c25:t465≤t469
 {
 rw [if_pos c25] at H
 have c25b0:decide (t465≤t469)=true:=decide_eq_true c25
 clear c25
 obtain ⟨t470,A26,H⟩:=ob_ H
 by_cases c27:t470=true
 {
 subst c27
 replace H:=tp_ H
 obtain rfl:=Option.some.inj H
 try go_wp2
 have n0_:=Aside0.mk (blk_drew BK448.out)
 have n1_:=Aside0.mk (below_drew1 HB.out)
 clear BK448
 clear HB
 have BK448:=n0_
 have HB:=n1_
 clear n0_ n1_
 refine start_ (n:=10) (S:=fun w'=>w'.cell? ⟨gb448,0,none⟩=some (.int .i64 a0_0)∧w'.cell? ⟨gb448,1,none⟩=some (.slice A0_1 l0_1.length c0_1)) (ds:=[]) #[false,false,false,false,false,false,false,false,false,false] (by kernel_rfl) rfl rfl ⟨(blk_cell BK448.out 0).trans rfl,(blk_cell BK448.out 1).trans rfl⟩ (fun hHeld=> ?_);refine with_tabW bookplatelaw18_PatchLeast.tab5 bookplatelaw18_PatchLeast.bits5 (fun HT_ HW_=> ?_)
 generalize wc.drew=w28 at BK448 HB hHeld⊢
 refine pA_ (i:=1) (N:=some 21) HT_ ?_
 refine tA_ (i:=0) (N:=some 20) HT_ HW_ hHeld ?_
 refine join_ (σ:=Value×Value×Nat) 2 #[true,true,true,true,true,true,true,true,false,false] (fun s_=>[(22,s_.1),(23,.tuple #[.agg #[.int .i64 t455,s_.2.1],.int .i64 t459]),(5,.pointer (some ⟨s_.2.2,0,none⟩)),(19,.tuple #[.agg #[.int .i64 t455,s_.2.1],.int .i64 t459]),(24,.agg #[.int .i64 t455,s_.2.1]),(25,.int .i64 t459)]) (fun s_ w'=>(w'.cell? ⟨gb448,0,none⟩=some (.int .i64 a0_0)∧w'.cell? ⟨gb448,1,none⟩=some (.slice A0_1 l0_1.length c0_1))∧(Kd.N k53 53 w' w.heap.size (fun k_=>k_≠gb448∧k_≠s_.2.2) s_.1 t452)∧(Kd.V k50 50 w' w.heap.size (fun k_=>some k_≠(s_.1:Value).ownBlock∧k_≠gb448∧k_≠s_.2.2) s_.2.1 t456)∧(w'.heap[gb448]?=some (.cells #[.int .i64 a0_0,.slice A0_1 l0_1.length c0_1] 24 (0,0)))∧(w'.heap[s_.2.2]?=some (.cells #[.int .i64 0,.slice none 0 0] 24 (0,0)))∧(w.heap.size≤s_.2.2)∧(w.heap.size≤s_.2.2)∧(gb448≠s_.2.2)∧(s_.2.2≠gb448)∧(Below w.heap.size w w')) ?_ ?_
 rotate_left
 {
 intro hCont
 refine two_ (i:=2) (j:=7) (Ni:=some 22) (Nj:=some 5) #[true,true,true,false,false,false,false,false,false,false] #[true,true,false,false,false,false,false,true,false,false] rfl rfl rfl rfl (two_of HT_.out (by kernel_rfl)) (by decide) (by decide) (fun K hK=> ?_) (fun K hK=> ?_)
 {
 skip
 refine goes_ Tryd.func15 (by kernel_rfl) rfl #[.slice A1 l1.length c1] (by rfl) rfl rfl ml_ ?_
 with_reducible refine (bookplatelaw18_Own.calls kj4 (fun k_=>k_<w.heap.size) _ _ l1 t452 _ ?side1 A17.out).mono ?_
 (case side1=>exact Kd.V_mk HC1.out (Kd.F_below (Kd.C_F k60_heap HR1.out) b0_))
 rintro e w29 ⟨v453,rfl,ho0,hb⟩
 refine ⟨_,rfl,?_⟩
 have n0_:=Aside0.mk (Kd.N_lower (Kd.N_mono (ok':=fun k_=>k_≠gb448) ho0 (fun k_ hk_=>Or.elim hk_ (fun hs_=>fun e_=>Nat.not_le.2 hs_ (by rw [e_];exact GW448.out)) (fun hn_=>(Kd.freshB (g:=gb448) (o:= .cells #[.int .i64 a0_0,.slice A0_1 l0_1.length c0_1] 24 (0,0)) k0_ k_ hn_)))) (below_size b0_))
 have n1_:=Aside0.mk (bb_ BK448 hb)
 have n2_:=Aside0.mk (below_step b0_ hb)
 clear BK448
 clear HB
 have HO454:=n0_
 have BK448:=n1_
 have HB:=n2_
 clear n0_ n1_ n2_
 (try clear hb)
 (try clear hk)
 (try clear ho0)
 obtain ⟨Ao30,co30,eo30⟩:=Kd.N_slice HO454.out
 (first|subst eo30|(injection eo30 with f1_ f2_ f3_;have f4_:=f1_.symm;have f5_:=f3_.symm;clear f1_ f2_ f3_;subst f4_;subst f5_))
 refine hK.out _ _ ⟨(blk_cell BK448.out 0).trans rfl,(blk_cell BK448.out 1).trans rfl⟩ (fun hHeld=> ?_)
 clear hK K
 refine norm_ (a':=?_) ?_ ?_
 rotate_left
 {
 show Act.put _ (some 22) _=_
 simp only [Act.put,List.setIfInBounds_toArray,List.set_cons_zero,List.set_cons_succ,i64_w,i32_w]
 rfl
 }
 refine two_ (i:=3) (j:=7) (Ni:=some 23) (Nj:=some 5) #[true,true,true,true,false,false,false,false,false,false] #[true,true,true,false,false,false,false,true,false,false] rfl rfl rfl rfl (two_of HT_.out (by kernel_rfl)) (by decide) (by decide) (fun K hK=> ?_) (fun K hK=> ?_)
 {
 skip
 refine goes_ Tryd.func14 (by kernel_rfl) rfl #[.agg #[.int .i64 a0_0,.slice A0_1 l0_1.length c0_1],.slice Ao30 t452.length co30] (by rfl) rfl rfl ml_ ?_
 with_reducible refine (patch_Apply.calls kj4 a0_0 _ _ l0_1 _ _ t452 t455 t456 t459 _ ?side5 ?side1 ?side2 ?side3 ?side4 A18.out).mono ?_
 (case side1=>exact c0_)
 (case side2=>exact HC0_1.out)
 (case side3=>repeat (first|exact (Kd.N_reads' HO454.out).2.2|(with_reducible refine Kd.C_alloc ?_ _)|(with_reducible refine Kd.C_drewN ?_ _)|(with_reducible refine Kd.C_drew ?_)))
 (case side4=>exact (Kd.N_reads' HO454.out).2.1)
 (case side5=>exact PTabs.step HT.out b0_)
 rintro e w31 ⟨v457,rfl,ho0,hb⟩
 refine ⟨_,rfl,?_⟩
 have n0_:=Aside0.mk (Kd.N_below (xN_ HO454) hb)
 have n1_:=Aside0.mk (Kd.V_lower (Kd.V_mono (ok':=fun k_=>some k_≠(.slice Ao30 t452.length co30:Value).ownBlock∧k_≠gb448) ho0 (fun k_ hk_=>⟨(Kd.fresh' (Kd.N_lt (xN_ HO454)) k_ hk_),(Kd.freshB (g:=gb448) (o:= .cells #[.int .i64 a0_0,.slice A0_1 l0_1.length c0_1] 24 (0,0)) k0_ k_ hk_)⟩)) (below_size b0_))
 have n2_:=Aside0.mk (bb_ BK448 hb)
 have n3_:=Aside0.mk (below_step b0_ hb)
 clear HO454
 clear BK448
 clear HB
 have HO454:=n0_
 have HO458:=n1_
 have BK448:=n2_
 have HB:=n3_
 clear n0_ n1_ n2_ n3_
 (try clear hb)
 (try clear hk)
 (try clear ho0)
 refine hK.out _ _ ⟨(blk_cell BK448.out 0).trans rfl,(blk_cell BK448.out 1).trans rfl⟩ (fun hHeld=> ?_)
 clear hK K
 refine norm_ (a':=?_) ?_ ?_
 rotate_left
 {
 show Act.put _ (some 23) _=_
 simp only [Act.put,List.setIfInBounds_toArray,List.set_cons_zero,List.set_cons_succ,i64_w,i32_w]
 rfl
 }
 refine pA_ (i:=4) (N:=some 19) HT_ ?_
 refine pA_ (i:=5) (N:=some 24) HT_ ?_
 refine pA_ (i:=6) (N:=some 25) HT_ ?_
 refine one_ (i:=7) (N:=some 5) #[true,true,true,true,true,true,true,true,false,false] rfl rfl (one_of HT_.out (by kernel_rfl)) (by decide) (fun K hK=> ?_)
 refine box_step ?hg (N:=5) ?hd (cs:=#[.int .i64 0,.slice none 0 0]) (t:=24) ?hr ?_;(case hd=>rfl);(case hg=>rfl);(case hr=>first|(go_simp;done)|(go_simp;rfl))
 intro gb460 hg w32 hbox hb
 have n0_:=Aside0.mk (Kd.N_below (Kd.N_elderB (xN_ HO454) gb460 (Nat.le_of_eq hg.symm)) hb)
 have n1_:=Aside0.mk (Kd.V_below (Kd.V_elderB (xV_ HO458) gb460 (Nat.le_of_eq hg.symm)) hb)
 have n2_:=Aside0.mk (bb_ BK448 hb)
 have n3_:=Aside0.mk (below_step b0_ hb)
 have n4_:=Aside0.mk (hbox)
 have n5_:=Aside0.mk ((g0_ hg b0_:w.heap.size≤gb460))
 have n6_:=Aside0.mk ((g0_ hg b0_:w.heap.size≤gb460))
 have n7_:=Aside0.mk ((g1_ hg k0_:gb448≠gb460))
 have n8_:=Aside0.mk ((g2_ hg k0_:gb460≠gb448))
 clear HO454
 clear HO458
 clear BK448
 clear HB
 have HO454:=n0_
 have HO458:=n1_
 have BK448:=n2_
 have HB:=n3_
 have BK460:=n4_
 have GW460:=n5_
 have GE460:=n6_
 have NB448_460:=n7_
 have NB460_448:=n8_
 clear n0_ n1_ n2_ n3_ n4_ n5_ n6_ n7_ n8_
 clear hb hbox hg
 refine hK.out _ _ ⟨(blk_cell BK448.out 0).trans rfl,(blk_cell BK448.out 1).trans rfl⟩ (fun hHeld=> ?_)
 clear hK K
 refine norm_ (a':=?_) ?_ ?_
 rotate_left
 {
 show Act.put _ (some 5) _=_
 simp only [Act.put,List.setIfInBounds_toArray,List.set_cons_zero,List.set_cons_succ,i64_w,i32_w]
 rfl
 }
 exact norm_ (by simp only [putAll,Act.put,List.setIfInBounds_toArray,List.set_cons_zero,List.set_cons_succ]) (hCont (.slice Ao30 t452.length co30,v457,gb460) _ ⟨hHeld,(xN_ HO454),(by (with_reducible repeat (first|apply Kd.V_alloc|apply Kd.V_drewN|apply Kd.V_drew));exact Kd.V_mono HO458.out (fun _ hk=>⟨hk.1.1,⟨hk.1.2,hk.2⟩⟩)),k0_,k0_,GW460.out,GE460.out,NB448_460.out,NB460_448.out,b0_⟩)
 }
 {
 skip
 refine box_step ?hg (N:=5) ?hd (cs:=#[.int .i64 0,.slice none 0 0]) (t:=24) ?hr ?_;(case hd=>rfl);(case hg=>rfl);(case hr=>first|(go_simp;done)|(go_simp;rfl))
 intro gb460 hg w30 hbox hb
 have n0_:=Aside0.mk (Kd.N_below (Kd.N_elderB (xN_ HO454) gb460 (Nat.le_of_eq hg.symm)) hb)
 have n1_:=Aside0.mk (bb_ BK448 hb)
 have n2_:=Aside0.mk (below_step b0_ hb)
 have n3_:=Aside0.mk (hbox)
 have n4_:=Aside0.mk ((g0_ hg b0_:w.heap.size≤gb460))
 have n5_:=Aside0.mk ((g0_ hg b0_:w.heap.size≤gb460))
 have n6_:=Aside0.mk ((g1_ hg k0_:gb448≠gb460))
 have n7_:=Aside0.mk ((g2_ hg k0_:gb460≠gb448))
 clear HO454
 clear BK448
 clear HB
 have HO454:=n0_
 have BK448:=n1_
 have HB:=n2_
 have BK460:=n3_
 have GW460:=n4_
 have GE460:=n5_
 have NB448_460:=n6_
 have NB460_448:=n7_
 clear n0_ n1_ n2_ n3_ n4_ n5_ n6_ n7_
 clear hb hbox hg
 obtain ⟨Ao31,co31,eo31⟩:=Kd.N_slice HO454.out
 (first|subst eo31|(injection eo31 with f1_ f2_ f3_;have f4_:=f1_.symm;have f5_:=f3_.symm;clear f1_ f2_ f3_;subst f4_;subst f5_))
 refine hK.out _ _ ⟨(blk_cell BK448.out 0).trans rfl,(blk_cell BK448.out 1).trans rfl⟩ (fun hHeld=> ?_)
 clear hK K
 refine norm_ (a':=?_) ?_ ?_
 rotate_left
 {
 show Act.put _ (some 5) _=_
 simp only [Act.put,List.setIfInBounds_toArray,List.set_cons_zero,List.set_cons_succ,i64_w,i32_w]
 rfl
 }
 refine one_ (i:=3) (N:=some 23) #[true,true,true,true,false,false,false,true,false,false] rfl rfl (one_of HT_.out (by kernel_rfl)) (by decide) (fun K hK=> ?_)
 refine goes_ Tryd.func14 (by kernel_rfl) rfl #[.agg #[.int .i64 a0_0,.slice A0_1 l0_1.length c0_1],.slice Ao31 t452.length co31] (by rfl) rfl rfl ml_ ?_
 with_reducible refine (patch_Apply.calls kj4 a0_0 _ _ l0_1 _ _ t452 t455 t456 t459 _ ?side5 ?side1 ?side2 ?side3 ?side4 A18.out).mono ?_
 (case side1=>exact c0_)
 (case side2=>exact HC0_1.out)
 (case side3=>repeat (first|exact (Kd.N_reads' HO454.out).2.2|(with_reducible refine Kd.C_alloc ?_ _)|(with_reducible refine Kd.C_drewN ?_ _)|(with_reducible refine Kd.C_drew ?_)))
 (case side4=>exact (Kd.N_reads' HO454.out).2.1)
 (case side5=>exact PTabs.step HT.out b0_)
 rintro e w32 ⟨v457,rfl,ho0,hb⟩
 refine ⟨_,rfl,?_⟩
 have n0_:=Aside0.mk (Kd.N_below (xN_ HO454) hb)
 have n1_:=Aside0.mk (Kd.V_lower (Kd.V_mono (ok':=fun k_=>some k_≠(.slice Ao31 t452.length co31:Value).ownBlock∧k_≠gb448∧k_≠gb460) ho0 (fun k_ hk_=>⟨(Kd.fresh' (Kd.N_lt (xN_ HO454)) k_ hk_),(Kd.freshB (g:=gb448) (o:= .cells #[.int .i64 a0_0,.slice A0_1 l0_1.length c0_1] 24 (0,0)) k0_ k_ hk_),(Kd.freshB (g:=gb460) (o:= .cells #[.int .i64 0,.slice none 0 0] 24 (0,0)) k0_ k_ hk_)⟩)) (below_size b0_))
 have n2_:=Aside0.mk (bb_ BK448 hb)
 have n3_:=Aside0.mk (bb_ BK460 hb)
 have n4_:=Aside0.mk (below_step b0_ hb)
 clear HO454
 clear BK448
 clear BK460
 clear HB
 have HO454:=n0_
 have HO458:=n1_
 have BK448:=n2_
 have BK460:=n3_
 have HB:=n4_
 clear n0_ n1_ n2_ n3_ n4_
 (try clear hb)
 (try clear hk)
 (try clear ho0)
 refine hK.out _ _ ⟨(blk_cell BK448.out 0).trans rfl,(blk_cell BK448.out 1).trans rfl⟩ (fun hHeld=> ?_)
 clear hK K
 refine norm_ (a':=?_) ?_ ?_
 rotate_left
 {
 show Act.put _ (some 23) _=_
 simp only [Act.put,List.setIfInBounds_toArray,List.set_cons_zero,List.set_cons_succ,i64_w,i32_w]
 rfl
 }
 refine pA_ (i:=4) (N:=some 19) HT_ ?_
 refine pA_ (i:=5) (N:=some 24) HT_ ?_
 refine pA_ (i:=6) (N:=some 25) HT_ ?_
 exact norm_ (by simp only [putAll,Act.put,List.setIfInBounds_toArray,List.set_cons_zero,List.set_cons_succ]) (hCont (.slice Ao31 t452.length co31,v457,gb460) _ ⟨hHeld,(xN_ HO454),(xV_ HO458),k0_,k0_,GW460.out,GE460.out,NB448_460.out,NB460_448.out,b0_⟩)
 }
 }
 {
 skip
 refine box_step ?hg (N:=5) ?hd (cs:=#[.int .i64 0,.slice none 0 0]) (t:=24) ?hr ?_;(case hd=>rfl);(case hg=>rfl);(case hr=>first|(go_simp;done)|(go_simp;rfl))
 intro gb460 hg w29 hbox hb
 have n0_:=Aside0.mk (bb_ BK448 hb)
 have n1_:=Aside0.mk (below_step b0_ hb)
 have n2_:=Aside0.mk (hbox)
 have n3_:=Aside0.mk ((g0_ hg b0_:w.heap.size≤gb460))
 have n4_:=Aside0.mk ((g0_ hg b0_:w.heap.size≤gb460))
 have n5_:=Aside0.mk ((g1_ hg k0_:gb448≠gb460))
 have n6_:=Aside0.mk ((g2_ hg k0_:gb460≠gb448))
 clear BK448
 clear HB
 have BK448:=n0_
 have HB:=n1_
 have BK460:=n2_
 have GW460:=n3_
 have GE460:=n4_
 have NB448_460:=n5_
 have NB460_448:=n6_
 clear n0_ n1_ n2_ n3_ n4_ n5_ n6_
 clear hb hbox hg
 refine hK.out _ _ ⟨(blk_cell BK448.out 0).trans rfl,(blk_cell BK448.out 1).trans rfl⟩ (fun hHeld=> ?_)
 clear hK K
 refine norm_ (a':=?_) ?_ ?_
 rotate_left
 {
 show Act.put _ (some 5) _=_
 simp only [Act.put,List.setIfInBounds_toArray,List.set_cons_zero,List.set_cons_succ,i64_w,i32_w]
 rfl
 }
 refine one_ (i:=2) (N:=some 22) #[true,true,true,false,false,false,false,true,false,false] rfl rfl (one_of HT_.out (by kernel_rfl)) (by decide) (fun K hK=> ?_)
 refine goes_ Tryd.func15 (by kernel_rfl) rfl #[.slice A1 l1.length c1] (by rfl) rfl rfl ml_ ?_
 with_reducible refine (bookplatelaw18_Own.calls kj4 (fun k_=>k_<w.heap.size) _ _ l1 t452 _ ?side1 A17.out).mono ?_
 (case side1=>exact Kd.V_mk HC1.out (Kd.F_below (Kd.C_F k60_heap HR1.out) b0_))
 rintro e w30 ⟨v453,rfl,ho0,hb⟩
 refine ⟨_,rfl,?_⟩
 have n0_:=Aside0.mk (Kd.N_lower (Kd.N_mono (ok':=fun k_=>k_≠gb448∧k_≠gb460) ho0 (fun k_ hk_=>⟨Or.elim hk_ (fun hs_=>fun e_=>Nat.not_le.2 hs_ (by rw [e_];exact GW448.out)) (fun hn_=>(Kd.freshB (g:=gb448) (o:= .cells #[.int .i64 a0_0,.slice A0_1 l0_1.length c0_1] 24 (0,0)) k0_ k_ hn_)),Or.elim hk_ (fun hs_=>fun e_=>Nat.not_le.2 hs_ (by rw [e_];exact GW460.out)) (fun hn_=>(Kd.freshB (g:=gb460) (o:= .cells #[.int .i64 0,.slice none 0 0] 24 (0,0)) k0_ k_ hn_))⟩)) (below_size b0_))
 have n1_:=Aside0.mk (bb_ BK448 hb)
 have n2_:=Aside0.mk (bb_ BK460 hb)
 have n3_:=Aside0.mk (below_step b0_ hb)
 clear BK448
 clear BK460
 clear HB
 have HO454:=n0_
 have BK448:=n1_
 have BK460:=n2_
 have HB:=n3_
 clear n0_ n1_ n2_ n3_
 (try clear hb)
 (try clear hk)
 (try clear ho0)
 obtain ⟨Ao31,co31,eo31⟩:=Kd.N_slice HO454.out
 (first|subst eo31|(injection eo31 with f1_ f2_ f3_;have f4_:=f1_.symm;have f5_:=f3_.symm;clear f1_ f2_ f3_;subst f4_;subst f5_))
 refine hK.out _ _ ⟨(blk_cell BK448.out 0).trans rfl,(blk_cell BK448.out 1).trans rfl⟩ (fun hHeld=> ?_)
 clear hK K
 refine norm_ (a':=?_) ?_ ?_
 rotate_left
 {
 show Act.put _ (some 22) _=_
 simp only [Act.put,List.setIfInBounds_toArray,List.set_cons_zero,List.set_cons_succ,i64_w,i32_w]
 rfl
 }
 refine one_ (i:=3) (N:=some 23) #[true,true,true,true,false,false,false,true,false,false] rfl rfl (one_of HT_.out (by kernel_rfl)) (by decide) (fun K hK=> ?_)
 refine goes_ Tryd.func14 (by kernel_rfl) rfl #[.agg #[.int .i64 a0_0,.slice A0_1 l0_1.length c0_1],.slice Ao31 t452.length co31] (by rfl) rfl rfl ml_ ?_
 with_reducible refine (patch_Apply.calls kj4 a0_0 _ _ l0_1 _ _ t452 t455 t456 t459 _ ?side5 ?side1 ?side2 ?side3 ?side4 A18.out).mono ?_
 (case side1=>exact c0_)
 (case side2=>exact HC0_1.out)
 (case side3=>repeat (first|exact (Kd.N_reads' HO454.out).2.2|(with_reducible refine Kd.C_alloc ?_ _)|(with_reducible refine Kd.C_drewN ?_ _)|(with_reducible refine Kd.C_drew ?_)))
 (case side4=>exact (Kd.N_reads' HO454.out).2.1)
 (case side5=>exact PTabs.step HT.out b0_)
 rintro e w32 ⟨v457,rfl,ho0,hb⟩
 refine ⟨_,rfl,?_⟩
 have n0_:=Aside0.mk (Kd.N_below (xN_ HO454) hb)
 have n1_:=Aside0.mk (Kd.V_lower (Kd.V_mono (ok':=fun k_=>some k_≠(.slice Ao31 t452.length co31:Value).ownBlock∧k_≠gb448∧k_≠gb460) ho0 (fun k_ hk_=>⟨(Kd.fresh' (Kd.N_lt (xN_ HO454)) k_ hk_),(Kd.freshB (g:=gb448) (o:= .cells #[.int .i64 a0_0,.slice A0_1 l0_1.length c0_1] 24 (0,0)) k0_ k_ hk_),(Kd.freshB (g:=gb460) (o:= .cells #[.int .i64 0,.slice none 0 0] 24 (0,0)) k0_ k_ hk_)⟩)) (below_size b0_))
 have n2_:=Aside0.mk (bb_ BK448 hb)
 have n3_:=Aside0.mk (bb_ BK460 hb)
 have n4_:=Aside0.mk (below_step b0_ hb)
 clear HO454
 clear BK448
 clear BK460
 clear HB
 have HO454:=n0_
 have HO458:=n1_
 have BK448:=n2_
 have BK460:=n3_
 have HB:=n4_
 clear n0_ n1_ n2_ n3_ n4_
 (try clear hb)
 (try clear hk)
 (try clear ho0)
 refine hK.out _ _ ⟨(blk_cell BK448.out 0).trans rfl,(blk_cell BK448.out 1).trans rfl⟩ (fun hHeld=> ?_)
 clear hK K
 refine norm_ (a':=?_) ?_ ?_
 rotate_left
 {
 show Act.put _ (some 23) _=_
 simp only [Act.put,List.setIfInBounds_toArray,List.set_cons_zero,List.set_cons_succ,i64_w,i32_w]
 rfl
 }
 refine pA_ (i:=4) (N:=some 19) HT_ ?_
 refine pA_ (i:=5) (N:=some 24) HT_ ?_
 refine pA_ (i:=6) (N:=some 25) HT_ ?_
 exact norm_ (by simp only [putAll,Act.put,List.setIfInBounds_toArray,List.set_cons_zero,List.set_cons_succ]) (hCont (.slice Ao31 t452.length co31,v457,gb460) _ ⟨hHeld,(xN_ HO454),(xV_ HO458),k0_,k0_,GW460.out,GE460.out,NB448_460.out,NB460_448.out,b0_⟩)
 }
 }
 rintro ⟨v453,v457,gb460⟩ w33 ⟨hS_,h0_,h1_,h2_,h3_,h4_,h5_,h6_,h7_,h8_⟩
 have n0_:Aside0 (Kd.N k53 53 w33 w.heap.size (fun k_=>k_≠gb448∧k_≠gb460) v453 t452):=⟨h0_⟩
 have n1_:Aside0 (Kd.V k50 50 w33 w.heap.size (fun k_=>some k_≠(v453:Value).ownBlock∧k_≠gb448∧k_≠gb460) v457 t456):=⟨h1_⟩
 have n2_:Aside0 (w33.heap[gb448]?=some (.cells #[.int .i64 a0_0,.slice A0_1 l0_1.length c0_1] 24 (0,0))):=⟨h2_⟩
 have n3_:Aside0 (w33.heap[gb460]?=some (.cells #[.int .i64 0,.slice none 0 0] 24 (0,0))):=⟨h3_⟩
 have n4_:Aside0 (w.heap.size≤gb460):=⟨h4_⟩
 have n5_:Aside0 (w.heap.size≤gb460):=⟨h5_⟩
 have n6_:Aside0 (gb448≠gb460):=⟨h6_⟩
 have n7_:Aside0 (gb460≠gb448):=⟨h7_⟩
 have n8_:Aside0 (Below w.heap.size w w33):=⟨h8_⟩
 clear BK448
 clear HB
 clear h0_ h1_ h2_ h3_ h4_ h5_ h6_ h7_ h8_
 have HO454:=n0_
 have HO458:=n1_
 have BK448:=n2_
 have BK460:=n3_
 have GW460:=n4_
 have GE460:=n5_
 have NB448_460:=n6_
 have NB460_448:=n7_
 have HB:=n8_
 clear n0_ n1_ n2_ n3_ n4_ n5_ n6_ n7_ n8_
 have hHeld:w33.cell? ⟨gb448,0,none⟩=some (.int .i64 a0_0)∧w33.cell? ⟨gb448,1,none⟩=some (.slice A0_1 l0_1.length c0_1):=hS_
 obtain ⟨Ao35,co35,eo35⟩:=Kd.V_slice HO458.out
 (first|subst eo35|(injection eo35 with f1_ f2_ f3_;have f4_:=f1_.symm;have f5_:=f3_.symm;clear f1_ f2_ f3_;subst f4_;subst f5_))
 refine norm_ (a':=?_) ?_ ?_
 rotate_left
 {
 simp only [putAll,Act.put,List.setIfInBounds_toArray,List.set_cons_zero,List.set_cons_succ]
 rfl
 }
 refine one_ (i:=8) (N:=none) #[true,true,true,true,true,true,true,true,true,false] rfl rfl (one_of HT_.out (by kernel_rfl)) (by decide) (fun K hK=> ?_)
 have hs34:w33.cell? ⟨gb460,0,none⟩=some (.int .i64 0):=(blk_cell BK460.out 0).trans rfl
 have hfs34:=blk_frozen BK460.out 0
 have hns34_0:=NB448_460.out
 have hms34_0:=NB460_448.out
 have hs36:w33.cell? ⟨gb460,1,none⟩=some (.slice none 0 0):=(blk_cell BK460.out 1).trans rfl
 have hfs36:=blk_frozen BK460.out 1
 have hns36_0:=NB448_460.out
 have hms36_0:=NB460_448.out
 refine skip_ (w1:=?_) (by rfl) rfl ?_ ?_
 rotate_left
 {
 go_simp
 rfl
 }
 refine hK.out _ _ ⟨((cell_far (p:=⟨gb460,_,none⟩) NB448_460.out _).trans (((cell_far (p:=⟨gb460,_,none⟩) NB448_460.out _).trans (hHeld.1)))),((cell_far (p:=⟨gb460,_,none⟩) NB448_460.out _).trans (((cell_far (p:=⟨gb460,_,none⟩) NB448_460.out _).trans (hHeld.2))))⟩ (fun hHeld=> ?_)
 clear hK K
 refine pA_ (i:=9) (N:=some 6) HT_ ?_
 refine done_ (done_of HT_.out (by kernel_rfl)) ?_
 have hnb37:=NB448_460.out
 have hnc37:=NB460_448.out
 have hcz38_0:w33.cell? ⟨gb448,0,none⟩=some (.int .i64 a0_0):=(blk_cell BK448.out 0).trans rfl;have hcz38_1:w33.cell? ⟨gb448,1,none⟩=some (.slice A0_1 l0_1.length c0_1):=(blk_cell BK448.out 1).trans rfl
 have hfz38_0:=blk_frozen BK448.out 0
 have hfz38_1:=blk_frozen BK448.out 1;have hcz39_0:w33.cell? ⟨gb460,0,none⟩=some (.int .i64 0):=(blk_cell BK460.out 0).trans rfl;have hcz39_1:w33.cell? ⟨gb460,1,none⟩=some (.slice none 0 0):=(blk_cell BK460.out 1).trans rfl
 have hfz39_0:=blk_frozen BK460.out 0
 have hfz39_1:=blk_frozen BK460.out 1
 try go_wp2_with (first|((with_reducible refine gate_callee (f:=9) rfl ?_);refine gl_ (some 35) Tryd.func9 #[.agg #[.int .i64 a0_0,.slice A0_1 l0_1.length c0_1],.agg #[.int .i64 t455,.slice Ao35 t456.length co35]] ?_;(with_reducible refine (patch_Diff.calls kj4 a0_0 _ _ l0_1 t455 _ _ t456 t461 t464 _ ?side5 ?side1 ?side2 ?side3 ?side4 A20.out).mono ?_);(case side1=>exact Kd.C_below HR0_1.out b0_);(case side2=>exact HC0_1.out);(case side3=>refine (Kd.V_reads' (e:=50) (base:=w.heap.size) (ok:=fun k_=>(some k_≠(v453:Value).ownBlock∧(k_≠gb448∧k_≠gb460))) (n:=t456.length) (c:=co35) ?_).2.2;exact (by (with_reducible repeat (first|apply Kd.V_alloc|apply Kd.V_drewN|apply Kd.V_drew));exact (Kd.V_mono (Kd.V_far (p:=⟨gb460,1,none⟩) (Kd.V_far (p:=⟨gb460,0,none⟩) (Kd.V_mono HO458.out (fun k_ hk=>(⟨hk,hk.2.2⟩:_∧k_≠gb460))) (fun _ hk=>hk.2) (.int .i64 t455)) (fun _ hk=>hk.2) (.slice Ao35 t456.length co35)) (fun _ h_=>h_.1))));(case side4=>exact (Kd.V_reads' HO458.out).2.1);(case side5=>exact PTabs.step HT.out b0_);rintro e w40 ⟨v462,rfl,ho0,hb⟩;refine ⟨_,rfl,?_⟩;have n_:=as6_ (Kd.N_elder' (by (with_reducible repeat (first|apply Kd.N_alloc|apply Kd.N_drewN|apply Kd.N_drew));exact (Kd.N_mono (Kd.N_far (p:=⟨gb460,1,none⟩) (Kd.N_far (p:=⟨gb460,0,none⟩) (Kd.N_mono HO454.out (fun k_ hk=>(⟨hk,hk.2⟩:_∧k_≠gb460))) (fun _ hk=>hk.2) (.int .i64 t455)) (fun _ hk=>hk.2) (.slice Ao35 t456.length co35)) (fun _ h_=>h_.1))) (by first|exact Kd.N_base ho0|exact Kd.S_base ho0|exact Kd.R_base ho0) hb) (Kd.V_elder' (by (with_reducible repeat (first|apply Kd.V_alloc|apply Kd.V_drewN|apply Kd.V_drew));exact (Kd.V_mono (Kd.V_far (p:=⟨gb460,1,none⟩) (Kd.V_far (p:=⟨gb460,0,none⟩) (Kd.V_mono HO458.out (fun k_ hk=>(⟨hk,hk.2.2⟩:_∧k_≠gb460))) (fun _ hk=>hk.2) (.int .i64 t455)) (fun _ hk=>hk.2) (.slice Ao35 t456.length co35)) (fun _ h_=>h_.1))) (by first|exact Kd.N_base ho0|exact Kd.S_base ho0|exact Kd.R_base ho0) hb) (Kd.N_lower (Kd.N_mono (ok':=fun k_=>some k_≠(v453:Value).ownBlock∧k_≠gb448∧k_≠gb460) (Kd.R_N (Kd.R_bound ho0)) (fun k_ hk_=>⟨(Kd.fresh' (Kd.N_lt (by (with_reducible repeat (first|apply Kd.N_alloc|apply Kd.N_drewN|apply Kd.N_drew));exact (Kd.N_mono (Kd.N_far (p:=⟨gb460,1,none⟩) (Kd.N_far (p:=⟨gb460,0,none⟩) (Kd.N_mono HO454.out (fun k_ hk=>(⟨hk,hk.2⟩:_∧k_≠gb460))) (fun _ hk=>hk.2) (.int .i64 t455)) (fun _ hk=>hk.2) (.slice Ao35 t456.length co35)) (fun _ h_=>h_.1)))) k_ hk_.2.1),(Kd.freshB (g:=gb448) (o:= .cells #[.int .i64 a0_0,.slice A0_1 l0_1.length c0_1] 24 (0,0)) k0_ k_ hk_.2.1),(Kd.freshB (g:=gb460) (o:= .cells #[.int .i64 t455,.slice Ao35 t456.length co35] 24 (0,0)) (by (with_reducible repeat (first|refine blk_drewN ?_ _|refine blk_drew ?_|refine blk_alloc ?_ _));refine blk_put (cs:=#[.int .i64 t455,.slice none 0 0]) ?_ 1 _ rfl;(with_reducible repeat (first|refine blk_drewN ?_ _|refine blk_drew ?_|refine blk_alloc ?_ _));refine blk_put (cs:=#[.int .i64 0,.slice none 0 0]) ?_ 0 _ rfl;(with_reducible repeat (first|refine blk_drewN ?_ _|refine blk_drew ?_|refine blk_alloc ?_ _));exact BK460.out) k_ hk_.2.1)⟩)) (below_size b0_)) (bb_ BK448 hb) (blk_below (g:=gb460) (o:= .cells #[.int .i64 t455,.slice Ao35 t456.length co35] 24 (0,0)) (by (with_reducible repeat (first|refine blk_drewN ?_ _|refine blk_drew ?_|refine blk_alloc ?_ _));refine blk_put (cs:=#[.int .i64 t455,.slice none 0 0]) ?_ 1 _ rfl;(with_reducible repeat (first|refine blk_drewN ?_ _|refine blk_drew ?_|refine blk_alloc ?_ _));refine blk_put (cs:=#[.int .i64 0,.slice none 0 0]) ?_ 0 _ rfl;(with_reducible repeat (first|refine blk_drewN ?_ _|refine blk_drew ?_|refine blk_alloc ?_ _));exact BK460.out) hb) (below_step b0_ hb);clear HO454 HO458 BK448 BK460;clear HB;obtain ⟨HO454,HO458,HO463,BK448,BK460,HB⟩:=n_;(try clear hb);(try clear hk);(try clear ho0);obtain ⟨Ao41,co41,eo41⟩:=Kd.N_slice HO463.out;subst eo41)|(go_at_call 16;(with_reducible refine (patch_Size.calls kj4 _ _ t461 t465 _ ?side1 ?side2 A22.out).mono ?_);(case side1=>repeat (first|exact (Kd.N_reads' HO463.out).2.2|(with_reducible refine Kd.C_alloc ?_ _)|(with_reducible refine Kd.C_drewN ?_ _)|(with_reducible refine Kd.C_drew ?_)));(case side2=>exact (Kd.N_reads' HO463.out).2.1);rintro e w42 ⟨rfl,hb⟩;have n_:=as6_ (Kd.N_below (xN_ HO454) hb) (Kd.V_below (xV_ HO458) hb) (Kd.N_below (xN_ HO463) hb) (bb_ BK448 hb) (bb_ BK460 hb) (below_step b0_ hb);clear HO454 HO458 HO463 BK448;clear BK460 HB;obtain ⟨HO454,HO458,HO463,BK448,BK460,HB⟩:=n_;(try clear hb);(try clear hk))|(go_at_call 15;(with_reducible refine (bookplatelaw18_Own.calls kj4 (fun k_=>k_<w.heap.size) _ _ l1 t466 _ ?side1 A23.out).mono ?_);(case side1=>exact Kd.V_mk HC1.out (Kd.F_below (Kd.C_F k60_heap HR1.out) b0_));rintro e w43 ⟨v467,rfl,ho0,hb⟩;have n_:=as7_ (Kd.N_elder' (xN_ HO454) (by first|exact Kd.N_base ho0|exact Kd.S_base ho0|exact Kd.R_base ho0) hb) (Kd.V_elder' (xV_ HO458) (by first|exact Kd.N_base ho0|exact Kd.S_base ho0|exact Kd.R_base ho0) hb) (Kd.N_elder' (xN_ HO463) (by first|exact Kd.N_base ho0|exact Kd.S_base ho0|exact Kd.R_base ho0) hb) (Kd.N_lower (Kd.N_mono (ok':=fun k_=>some k_≠(v453:Value).ownBlock∧some k_≠(.slice Ao41 t461.length co41:Value).ownBlock∧k_≠gb448∧k_≠gb460) ho0 (fun k_ hk_=>⟨Or.elim hk_ (fun hs_=>fun e_=>Nat.not_le.2 hs_ (Kd.N_base HO454.out k_ e_.symm)) (fun hn_=>(Kd.fresh' (Kd.N_lt (xN_ HO454)) k_ hn_)),Or.elim hk_ (fun hs_=>fun e_=>Nat.not_le.2 hs_ (Kd.N_base HO463.out k_ e_.symm)) (fun hn_=>(Kd.fresh' (Kd.N_lt (xN_ HO463)) k_ hn_)),Or.elim hk_ (fun hs_=>fun e_=>Nat.not_le.2 hs_ (by rw [e_];exact GW448.out)) (fun hn_=>(Kd.freshB (g:=gb448) (o:= .cells #[.int .i64 a0_0,.slice A0_1 l0_1.length c0_1] 24 (0,0)) k0_ k_ hn_)),Or.elim hk_ (fun hs_=>fun e_=>Nat.not_le.2 hs_ (by rw [e_];exact GW460.out)) (fun hn_=>(Kd.freshB (g:=gb460) (o:= .cells #[.int .i64 t455,.slice Ao35 t456.length co35] 24 (0,0)) k0_ k_ hn_))⟩)) (below_size b0_)) (bb_ BK448 hb) (bb_ BK460 hb) (below_step b0_ hb);clear HO454 HO458 HO463 BK448;clear BK460 HB;obtain ⟨HO454,HO458,HO463,HO468,BK448,BK460,HB⟩:=n_;(try clear hb);(try clear hk);(try clear ho0);obtain ⟨Ao44,co44,eo44⟩:=Kd.N_slice HO468.out;subst eo44)|(go_at_call 16;(with_reducible refine (patch_Size.calls kj4 _ _ t466 t469 _ ?side1 ?side2 A24.out).mono ?_);(case side1=>repeat (first|exact (Kd.N_reads' HO468.out).2.2|(with_reducible refine Kd.C_alloc ?_ _)|(with_reducible refine Kd.C_drewN ?_ _)|(with_reducible refine Kd.C_drew ?_)));(case side2=>exact (Kd.N_reads' HO468.out).2.1);rintro e w45 ⟨rfl,hb⟩;have n_:=as7_ (Kd.N_below (xN_ HO454) hb) (Kd.V_below (xV_ HO458) hb) (Kd.N_below (xN_ HO463) hb) (Kd.N_below (xN_ HO468) hb) (bb_ BK448 hb) (bb_ BK460 hb) (below_step b0_ hb);clear HO454 HO458 HO463 HO468;clear BK448 BK460 HB;obtain ⟨HO454,HO458,HO463,HO468,BK448,BK460,HB⟩:=n_;(try clear hb);(try clear hk);obtain ⟨hcz46_0,hcz46_1,hfz46_0,hfz46_1⟩:=ce2_ BK460)|(go_at_call 17;(with_reducible refine (bookplateref12_Valid.calls kj4 t455 _ _ t456 true _ ?side1 ?side2 A26.out).mono ?_);(case side1=>repeat (first|exact (Kd.V_reads' HO458.out).2.2|(with_reducible refine Kd.C_alloc ?_ _)|(with_reducible refine Kd.C_drewN ?_ _)|(with_reducible refine Kd.C_drew ?_)));(case side2=>exact (Kd.V_reads' HO458.out).2.1);rintro e w47 ⟨rfl,hb⟩;have n_:=as7_ (Kd.N_below (xN_ HO454) hb) (Kd.V_below (xV_ HO458) hb) (Kd.N_below (xN_ HO463) hb) (Kd.N_below (xN_ HO468) hb) (bb_ BK448 hb) (bb_ BK460 hb) (below_step b0_ hb);clear HO454 HO458 HO463 HO468;clear BK448 BK460 HB;obtain ⟨HO454,HO458,HO463,HO468,BK448,BK460,HB⟩:=n_;(try clear hb);(try clear hk);obtain ⟨hcz48_0,hcz48_1,hfz48_0,hfz48_1⟩:=ce2_ BK460;obtain ⟨hcz49_0,hcz49_1,hfz49_0,hfz49_1⟩:=ce2_ BK448))
 go_ret
 exact ⟨by first|rfl|((try rw [←Option.some.inj (A3.out.symm.trans A8.out)]);(try rw [←Option.some.inj (A3.out.symm.trans A10.out)]);(try rw [←Option.some.inj (A3.out.symm.trans A17.out)]);(try rw [←Option.some.inj (A3.out.symm.trans A18.out)]);(try rw [←Option.some.inj (A3.out.symm.trans A20.out)]);(try rw [←Option.some.inj (A3.out.symm.trans A22.out)]);(try rw [←Option.some.inj (A3.out.symm.trans A23.out)]);(try rw [←Option.some.inj (A3.out.symm.trans A24.out)]);(try rw [←Option.some.inj (A3.out.symm.trans A26.out)]);(try rw [←Option.some.inj (A8.out.symm.trans A10.out)]);(try rw [←Option.some.inj (A8.out.symm.trans A17.out)]);(try rw [←Option.some.inj (A8.out.symm.trans A18.out)]);(try rw [←Option.some.inj (A8.out.symm.trans A20.out)]);(try rw [←Option.some.inj (A8.out.symm.trans A22.out)]);(try rw [←Option.some.inj (A8.out.symm.trans A23.out)]);(try rw [←Option.some.inj (A8.out.symm.trans A24.out)]);(try rw [←Option.some.inj (A8.out.symm.trans A26.out)]);(try rw [←Option.some.inj (A10.out.symm.trans A17.out)]);(try rw [←Option.some.inj (A10.out.symm.trans A18.out)]);(try rw [←Option.some.inj (A10.out.symm.trans A20.out)]);(try rw [←Option.some.inj (A10.out.symm.trans A22.out)]);(try rw [←Option.some.inj (A10.out.symm.trans A23.out)]);(try rw [←Option.some.inj (A10.out.symm.trans A24.out)]);(try rw [←Option.some.inj (A10.out.symm.trans A26.out)]);(try rw [←Option.some.inj (A17.out.symm.trans A18.out)]);(try rw [←Option.some.inj (A17.out.symm.trans A20.out)]);(try rw [←Option.some.inj (A17.out.symm.trans A22.out)]);(try rw [←Option.some.inj (A17.out.symm.trans A23.out)]);(try rw [←Option.some.inj (A17.out.symm.trans A24.out)]);(try rw [←Option.some.inj (A17.out.symm.trans A26.out)]);(try rw [←Option.some.inj (A18.out.symm.trans A20.out)]);(try rw [←Option.some.inj (A18.out.symm.trans A22.out)]);(try rw [←Option.some.inj (A18.out.symm.trans A23.out)]);(try rw [←Option.some.inj (A18.out.symm.trans A24.out)]);(try rw [←Option.some.inj (A18.out.symm.trans A26.out)]);(try rw [←Option.some.inj (A20.out.symm.trans A22.out)]);(try rw [←Option.some.inj (A20.out.symm.trans A23.out)]);(try rw [←Option.some.inj (A20.out.symm.trans A24.out)]);(try rw [←Option.some.inj (A20.out.symm.trans A26.out)]);(try rw [←Option.some.inj (A22.out.symm.trans A23.out)]);(try rw [←Option.some.inj (A22.out.symm.trans A24.out)]);(try rw [←Option.some.inj (A22.out.symm.trans A26.out)]);(try rw [←Option.some.inj (A23.out.symm.trans A24.out)]);(try rw [←Option.some.inj (A23.out.symm.trans A26.out)]);(try rw [←Option.some.inj (A24.out.symm.trans A26.out)]);rfl)|(simp [errW_none,errW_some]<;>rfl)|(simp [*,errW_none,errW_some]<;>rfl),b0_⟩
 }
 {
 replace c27:=Bool.eq_false_iff.mpr c27
 subst c27
 replace H:=fn_ H
 exact absurd H (by simp)
 }
 }
 {
 rw [if_neg c25] at H
 exact absurd H (by simp)
 }
 }
 {
 rw [if_neg c21] at H
 exact absurd H (by simp)
 }
 }
 {
 rw [if_neg c19] at H
 have c19b0:(t459==0)=false:=beq_eq_false_iff_ne.mpr c19
 have c19b1:(t459 !=0)=true:=bne_iff_ne.mpr c19
 obtain rfl:=Option.some.inj H
 try go_wp2
 have n0_:=Aside0.mk (blk_drew BK448.out)
 have n1_:=Aside0.mk (below_drew1 HB.out)
 clear BK448
 clear HB
 have BK448:=n0_
 have HB:=n1_
 clear n0_ n1_
 refine start_ (n:=10) (S:=fun w'=>w'.cell? ⟨gb448,0,none⟩=some (.int .i64 a0_0)∧w'.cell? ⟨gb448,1,none⟩=some (.slice A0_1 l0_1.length c0_1)) (ds:=[]) #[false,false,false,false,false,false,false,false,false,false] (by kernel_rfl) rfl rfl ⟨(blk_cell BK448.out 0).trans rfl,(blk_cell BK448.out 1).trans rfl⟩ (fun hHeld=> ?_);refine with_tabW bookplatelaw18_PatchLeast.tab5 bookplatelaw18_PatchLeast.bits5 (fun HT_ HW_=> ?_)
 generalize wc.drew=w50 at BK448 HB hHeld⊢
 refine pA_ (i:=1) (N:=some 21) HT_ ?_
 refine tA_ (i:=0) (N:=some 20) HT_ HW_ hHeld ?_
 refine join_ (σ:=Value×Value×Nat) 2 #[true,true,true,true,true,true,true,true,false,false] (fun s_=>[(22,s_.1),(23,.tuple #[.agg #[.int .i64 t455,s_.2.1],.int .i64 t459]),(5,.pointer (some ⟨s_.2.2,0,none⟩)),(19,.tuple #[.agg #[.int .i64 t455,s_.2.1],.int .i64 t459]),(24,.agg #[.int .i64 t455,s_.2.1]),(25,.int .i64 t459)]) (fun s_ w'=>(w'.cell? ⟨gb448,0,none⟩=some (.int .i64 a0_0)∧w'.cell? ⟨gb448,1,none⟩=some (.slice A0_1 l0_1.length c0_1))∧(Kd.N k53 53 w' w.heap.size (fun k_=>k_≠gb448∧k_≠s_.2.2) s_.1 t452)∧(Kd.V k50 50 w' w.heap.size (fun k_=>some k_≠(s_.1:Value).ownBlock∧k_≠gb448∧k_≠s_.2.2) s_.2.1 t456)∧(w'.heap[gb448]?=some (.cells #[.int .i64 a0_0,.slice A0_1 l0_1.length c0_1] 24 (0,0)))∧(w'.heap[s_.2.2]?=some (.cells #[.int .i64 0,.slice none 0 0] 24 (0,0)))∧(w.heap.size≤s_.2.2)∧(w.heap.size≤s_.2.2)∧(gb448≠s_.2.2)∧(s_.2.2≠gb448)∧(Below w.heap.size w w')) ?_ ?_
 rotate_left
 {
 intro hCont
 refine two_ (i:=2) (j:=7) (Ni:=some 22) (Nj:=some 5) #[true,true,true,false,false,false,false,false,false,false] #[true,true,false,false,false,false,false,true,false,false] rfl rfl rfl rfl (two_of HT_.out (by kernel_rfl)) (by decide) (by decide) (fun K hK=> ?_) (fun K hK=> ?_)
 {
 skip
 refine goes_ Tryd.func15 (by kernel_rfl) rfl #[.slice A1 l1.length c1] (by rfl) rfl rfl ml_ ?_
 with_reducible refine (bookplatelaw18_Own.calls kj4 (fun k_=>k_<w.heap.size) _ _ l1 t452 _ ?side1 A17.out).mono ?_
 (case side1=>exact Kd.V_mk HC1.out (Kd.F_below (Kd.C_F k60_heap HR1.out) b0_))
 rintro e w51 ⟨v453,rfl,ho0,hb⟩
 refine ⟨_,rfl,?_⟩
 have n0_:=Aside0.mk (Kd.N_lower (Kd.N_mono (ok':=fun k_=>k_≠gb448) ho0 (fun k_ hk_=>Or.elim hk_ (fun hs_=>fun e_=>Nat.not_le.2 hs_ (by rw [e_];exact GW448.out)) (fun hn_=>(Kd.freshB (g:=gb448) (o:= .cells #[.int .i64 a0_0,.slice A0_1 l0_1.length c0_1] 24 (0,0)) k0_ k_ hn_)))) (below_size b0_))
 have n1_:=Aside0.mk (bb_ BK448 hb)
 have n2_:=Aside0.mk (below_step b0_ hb)
 clear BK448
 clear HB
 have HO454:=n0_
 have BK448:=n1_
 have HB:=n2_
 clear n0_ n1_ n2_
 (try clear hb)
 (try clear hk)
 (try clear ho0)
 obtain ⟨Ao52,co52,eo52⟩:=Kd.N_slice HO454.out
 (first|subst eo52|(injection eo52 with f1_ f2_ f3_;have f4_:=f1_.symm;have f5_:=f3_.symm;clear f1_ f2_ f3_;subst f4_;subst f5_))
 refine hK.out _ _ ⟨(blk_cell BK448.out 0).trans rfl,(blk_cell BK448.out 1).trans rfl⟩ (fun hHeld=> ?_)
 clear hK K
 refine norm_ (a':=?_) ?_ ?_
 rotate_left
 {
 show Act.put _ (some 22) _=_
 simp only [Act.put,List.setIfInBounds_toArray,List.set_cons_zero,List.set_cons_succ,i64_w,i32_w]
 rfl
 }
 refine two_ (i:=3) (j:=7) (Ni:=some 23) (Nj:=some 5) #[true,true,true,true,false,false,false,false,false,false] #[true,true,true,false,false,false,false,true,false,false] rfl rfl rfl rfl (two_of HT_.out (by kernel_rfl)) (by decide) (by decide) (fun K hK=> ?_) (fun K hK=> ?_)
 {
 skip
 refine goes_ Tryd.func14 (by kernel_rfl) rfl #[.agg #[.int .i64 a0_0,.slice A0_1 l0_1.length c0_1],.slice Ao52 t452.length co52] (by rfl) rfl rfl ml_ ?_
 with_reducible refine (patch_Apply.calls kj4 a0_0 _ _ l0_1 _ _ t452 t455 t456 t459 _ ?side5 ?side1 ?side2 ?side3 ?side4 A18.out).mono ?_
 (case side1=>exact c0_)
 (case side2=>exact HC0_1.out)
 (case side3=>repeat (first|exact (Kd.N_reads' HO454.out).2.2|(with_reducible refine Kd.C_alloc ?_ _)|(with_reducible refine Kd.C_drewN ?_ _)|(with_reducible refine Kd.C_drew ?_)))
 (case side4=>exact (Kd.N_reads' HO454.out).2.1)
 (case side5=>exact PTabs.step HT.out b0_)
 rintro e w53 ⟨v457,rfl,ho0,hb⟩
 refine ⟨_,rfl,?_⟩
 have n0_:=Aside0.mk (Kd.N_below (xN_ HO454) hb)
 have n1_:=Aside0.mk (Kd.V_lower (Kd.V_mono (ok':=fun k_=>some k_≠(.slice Ao52 t452.length co52:Value).ownBlock∧k_≠gb448) ho0 (fun k_ hk_=>⟨(Kd.fresh' (Kd.N_lt (xN_ HO454)) k_ hk_),(Kd.freshB (g:=gb448) (o:= .cells #[.int .i64 a0_0,.slice A0_1 l0_1.length c0_1] 24 (0,0)) k0_ k_ hk_)⟩)) (below_size b0_))
 have n2_:=Aside0.mk (bb_ BK448 hb)
 have n3_:=Aside0.mk (below_step b0_ hb)
 clear HO454
 clear BK448
 clear HB
 have HO454:=n0_
 have HO458:=n1_
 have BK448:=n2_
 have HB:=n3_
 clear n0_ n1_ n2_ n3_
 (try clear hb)
 (try clear hk)
 (try clear ho0)
 refine hK.out _ _ ⟨(blk_cell BK448.out 0).trans rfl,(blk_cell BK448.out 1).trans rfl⟩ (fun hHeld=> ?_)
 clear hK K
 refine norm_ (a':=?_) ?_ ?_
 rotate_left
 {
 show Act.put _ (some 23) _=_
 simp only [Act.put,List.setIfInBounds_toArray,List.set_cons_zero,List.set_cons_succ,i64_w,i32_w]
 rfl
 }
 refine pA_ (i:=4) (N:=some 19) HT_ ?_
 refine pA_ (i:=5) (N:=some 24) HT_ ?_
 refine pA_ (i:=6) (N:=some 25) HT_ ?_
 refine one_ (i:=7) (N:=some 5) #[true,true,true,true,true,true,true,true,false,false] rfl rfl (one_of HT_.out (by kernel_rfl)) (by decide) (fun K hK=> ?_)
 refine box_step ?hg (N:=5) ?hd (cs:=#[.int .i64 0,.slice none 0 0]) (t:=24) ?hr ?_;(case hd=>rfl);(case hg=>rfl);(case hr=>first|(go_simp;done)|(go_simp;rfl))
 intro gb460 hg w54 hbox hb
 have n0_:=Aside0.mk (Kd.N_below (Kd.N_elderB (xN_ HO454) gb460 (Nat.le_of_eq hg.symm)) hb)
 have n1_:=Aside0.mk (Kd.V_below (Kd.V_elderB (xV_ HO458) gb460 (Nat.le_of_eq hg.symm)) hb)
 have n2_:=Aside0.mk (bb_ BK448 hb)
 have n3_:=Aside0.mk (below_step b0_ hb)
 have n4_:=Aside0.mk (hbox)
 have n5_:=Aside0.mk ((g0_ hg b0_:w.heap.size≤gb460))
 have n6_:=Aside0.mk ((g0_ hg b0_:w.heap.size≤gb460))
 have n7_:=Aside0.mk ((g1_ hg k0_:gb448≠gb460))
 have n8_:=Aside0.mk ((g2_ hg k0_:gb460≠gb448))
 clear HO454
 clear HO458
 clear BK448
 clear HB
 have HO454:=n0_
 have HO458:=n1_
 have BK448:=n2_
 have HB:=n3_
 have BK460:=n4_
 have GW460:=n5_
 have GE460:=n6_
 have NB448_460:=n7_
 have NB460_448:=n8_
 clear n0_ n1_ n2_ n3_ n4_ n5_ n6_ n7_ n8_
 clear hb hbox hg
 refine hK.out _ _ ⟨(blk_cell BK448.out 0).trans rfl,(blk_cell BK448.out 1).trans rfl⟩ (fun hHeld=> ?_)
 clear hK K
 refine norm_ (a':=?_) ?_ ?_
 rotate_left
 {
 show Act.put _ (some 5) _=_
 simp only [Act.put,List.setIfInBounds_toArray,List.set_cons_zero,List.set_cons_succ,i64_w,i32_w]
 rfl
 }
 exact norm_ (by simp only [putAll,Act.put,List.setIfInBounds_toArray,List.set_cons_zero,List.set_cons_succ]) (hCont (.slice Ao52 t452.length co52,v457,gb460) _ ⟨hHeld,(xN_ HO454),(by (with_reducible repeat (first|apply Kd.V_alloc|apply Kd.V_drewN|apply Kd.V_drew));exact Kd.V_mono HO458.out (fun _ hk=>⟨hk.1.1,⟨hk.1.2,hk.2⟩⟩)),k0_,k0_,GW460.out,GE460.out,NB448_460.out,NB460_448.out,b0_⟩)
 }
 {
 skip
 refine box_step ?hg (N:=5) ?hd (cs:=#[.int .i64 0,.slice none 0 0]) (t:=24) ?hr ?_;(case hd=>rfl);(case hg=>rfl);(case hr=>first|(go_simp;done)|(go_simp;rfl))
 intro gb460 hg w52 hbox hb
 have n0_:=Aside0.mk (Kd.N_below (Kd.N_elderB (xN_ HO454) gb460 (Nat.le_of_eq hg.symm)) hb)
 have n1_:=Aside0.mk (bb_ BK448 hb)
 have n2_:=Aside0.mk (below_step b0_ hb)
 have n3_:=Aside0.mk (hbox)
 have n4_:=Aside0.mk ((g0_ hg b0_:w.heap.size≤gb460))
 have n5_:=Aside0.mk ((g0_ hg b0_:w.heap.size≤gb460))
 have n6_:=Aside0.mk ((g1_ hg k0_:gb448≠gb460))
 have n7_:=Aside0.mk ((g2_ hg k0_:gb460≠gb448))
 clear HO454
 clear BK448
 clear HB
 have HO454:=n0_
 have BK448:=n1_
 have HB:=n2_
 have BK460:=n3_
 have GW460:=n4_
 have GE460:=n5_
 have NB448_460:=n6_
 have NB460_448:=n7_
 clear n0_ n1_ n2_ n3_ n4_ n5_ n6_ n7_
 clear hb hbox hg
 obtain ⟨Ao53,co53,eo53⟩:=Kd.N_slice HO454.out
 (first|subst eo53|(injection eo53 with f1_ f2_ f3_;have f4_:=f1_.symm;have f5_:=f3_.symm;clear f1_ f2_ f3_;subst f4_;subst f5_))
 refine hK.out _ _ ⟨(blk_cell BK448.out 0).trans rfl,(blk_cell BK448.out 1).trans rfl⟩ (fun hHeld=> ?_)
 clear hK K
 refine norm_ (a':=?_) ?_ ?_
 rotate_left
 {
 show Act.put _ (some 5) _=_
 simp only [Act.put,List.setIfInBounds_toArray,List.set_cons_zero,List.set_cons_succ,i64_w,i32_w]
 rfl
 }
 refine one_ (i:=3) (N:=some 23) #[true,true,true,true,false,false,false,true,false,false] rfl rfl (one_of HT_.out (by kernel_rfl)) (by decide) (fun K hK=> ?_)
 refine goes_ Tryd.func14 (by kernel_rfl) rfl #[.agg #[.int .i64 a0_0,.slice A0_1 l0_1.length c0_1],.slice Ao53 t452.length co53] (by rfl) rfl rfl ml_ ?_
 with_reducible refine (patch_Apply.calls kj4 a0_0 _ _ l0_1 _ _ t452 t455 t456 t459 _ ?side5 ?side1 ?side2 ?side3 ?side4 A18.out).mono ?_
 (case side1=>exact c0_)
 (case side2=>exact HC0_1.out)
 (case side3=>repeat (first|exact (Kd.N_reads' HO454.out).2.2|(with_reducible refine Kd.C_alloc ?_ _)|(with_reducible refine Kd.C_drewN ?_ _)|(with_reducible refine Kd.C_drew ?_)))
 (case side4=>exact (Kd.N_reads' HO454.out).2.1)
 (case side5=>exact PTabs.step HT.out b0_)
 rintro e w54 ⟨v457,rfl,ho0,hb⟩
 refine ⟨_,rfl,?_⟩
 have n0_:=Aside0.mk (Kd.N_below (xN_ HO454) hb)
 have n1_:=Aside0.mk (Kd.V_lower (Kd.V_mono (ok':=fun k_=>some k_≠(.slice Ao53 t452.length co53:Value).ownBlock∧k_≠gb448∧k_≠gb460) ho0 (fun k_ hk_=>⟨(Kd.fresh' (Kd.N_lt (xN_ HO454)) k_ hk_),(Kd.freshB (g:=gb448) (o:= .cells #[.int .i64 a0_0,.slice A0_1 l0_1.length c0_1] 24 (0,0)) k0_ k_ hk_),(Kd.freshB (g:=gb460) (o:= .cells #[.int .i64 0,.slice none 0 0] 24 (0,0)) k0_ k_ hk_)⟩)) (below_size b0_))
 have n2_:=Aside0.mk (bb_ BK448 hb)
 have n3_:=Aside0.mk (bb_ BK460 hb)
 have n4_:=Aside0.mk (below_step b0_ hb)
 clear HO454
 clear BK448
 clear BK460
 clear HB
 have HO454:=n0_
 have HO458:=n1_
 have BK448:=n2_
 have BK460:=n3_
 have HB:=n4_
 clear n0_ n1_ n2_ n3_ n4_
 (try clear hb)
 (try clear hk)
 (try clear ho0)
 refine hK.out _ _ ⟨(blk_cell BK448.out 0).trans rfl,(blk_cell BK448.out 1).trans rfl⟩ (fun hHeld=> ?_)
 clear hK K
 refine norm_ (a':=?_) ?_ ?_
 rotate_left
 {
 show Act.put _ (some 23) _=_
 simp only [Act.put,List.setIfInBounds_toArray,List.set_cons_zero,List.set_cons_succ,i64_w,i32_w]
 rfl
 }
 refine pA_ (i:=4) (N:=some 19) HT_ ?_
 refine pA_ (i:=5) (N:=some 24) HT_ ?_
 refine pA_ (i:=6) (N:=some 25) HT_ ?_
 exact norm_ (by simp only [putAll,Act.put,List.setIfInBounds_toArray,List.set_cons_zero,List.set_cons_succ]) (hCont (.slice Ao53 t452.length co53,v457,gb460) _ ⟨hHeld,(xN_ HO454),(xV_ HO458),k0_,k0_,GW460.out,GE460.out,NB448_460.out,NB460_448.out,b0_⟩)
 }
 }
 {
 skip
 refine box_step ?hg (N:=5) ?hd (cs:=#[.int .i64 0,.slice none 0 0]) (t:=24) ?hr ?_;(case hd=>rfl);(case hg=>rfl);(case hr=>first|(go_simp;done)|(go_simp;rfl))
 intro gb460 hg w51 hbox hb
 have n0_:=Aside0.mk (bb_ BK448 hb)
 have n1_:=Aside0.mk (below_step b0_ hb)
 have n2_:=Aside0.mk (hbox)
 have n3_:=Aside0.mk ((g0_ hg b0_:w.heap.size≤gb460))
 have n4_:=Aside0.mk ((g0_ hg b0_:w.heap.size≤gb460))
 have n5_:=Aside0.mk ((g1_ hg k0_:gb448≠gb460))
 have n6_:=Aside0.mk ((g2_ hg k0_:gb460≠gb448))
 clear BK448
 clear HB
 have BK448:=n0_
 have HB:=n1_
 have BK460:=n2_
 have GW460:=n3_
 have GE460:=n4_
 have NB448_460:=n5_
 have NB460_448:=n6_
 clear n0_ n1_ n2_ n3_ n4_ n5_ n6_
 clear hb hbox hg
 refine hK.out _ _ ⟨(blk_cell BK448.out 0).trans rfl,(blk_cell BK448.out 1).trans rfl⟩ (fun hHeld=> ?_)
 clear hK K
 refine norm_ (a':=?_) ?_ ?_
 rotate_left
 {
 show Act.put _ (some 5) _=_
 simp only [Act.put,List.setIfInBounds_toArray,List.set_cons_zero,List.set_cons_succ,i64_w,i32_w]
 rfl
 }
 refine one_ (i:=2) (N:=some 22) #[true,true,true,false,false,false,false,true,false,false] rfl rfl (one_of HT_.out (by kernel_rfl)) (by decide) (fun K hK=> ?_)
 refine goes_ Tryd.func15 (by kernel_rfl) rfl #[.slice A1 l1.length c1] (by rfl) rfl rfl ml_ ?_
 with_reducible refine (bookplatelaw18_Own.calls kj4 (fun k_=>k_<w.heap.size) _ _ l1 t452 _ ?side1 A17.out).mono ?_
 (case side1=>exact Kd.V_mk HC1.out (Kd.F_below (Kd.C_F k60_heap HR1.out) b0_))
 rintro e w52 ⟨v453,rfl,ho0,hb⟩
 refine ⟨_,rfl,?_⟩
 have n0_:=Aside0.mk (Kd.N_lower (Kd.N_mono (ok':=fun k_=>k_≠gb448∧k_≠gb460) ho0 (fun k_ hk_=>⟨Or.elim hk_ (fun hs_=>fun e_=>Nat.not_le.2 hs_ (by rw [e_];exact GW448.out)) (fun hn_=>(Kd.freshB (g:=gb448) (o:= .cells #[.int .i64 a0_0,.slice A0_1 l0_1.length c0_1] 24 (0,0)) k0_ k_ hn_)),Or.elim hk_ (fun hs_=>fun e_=>Nat.not_le.2 hs_ (by rw [e_];exact GW460.out)) (fun hn_=>(Kd.freshB (g:=gb460) (o:= .cells #[.int .i64 0,.slice none 0 0] 24 (0,0)) k0_ k_ hn_))⟩)) (below_size b0_))
 have n1_:=Aside0.mk (bb_ BK448 hb)
 have n2_:=Aside0.mk (bb_ BK460 hb)
 have n3_:=Aside0.mk (below_step b0_ hb)
 clear BK448
 clear BK460
 clear HB
 have HO454:=n0_
 have BK448:=n1_
 have BK460:=n2_
 have HB:=n3_
 clear n0_ n1_ n2_ n3_
 (try clear hb)
 (try clear hk)
 (try clear ho0)
 obtain ⟨Ao53,co53,eo53⟩:=Kd.N_slice HO454.out
 (first|subst eo53|(injection eo53 with f1_ f2_ f3_;have f4_:=f1_.symm;have f5_:=f3_.symm;clear f1_ f2_ f3_;subst f4_;subst f5_))
 refine hK.out _ _ ⟨(blk_cell BK448.out 0).trans rfl,(blk_cell BK448.out 1).trans rfl⟩ (fun hHeld=> ?_)
 clear hK K
 refine norm_ (a':=?_) ?_ ?_
 rotate_left
 {
 show Act.put _ (some 22) _=_
 simp only [Act.put,List.setIfInBounds_toArray,List.set_cons_zero,List.set_cons_succ,i64_w,i32_w]
 rfl
 }
 refine one_ (i:=3) (N:=some 23) #[true,true,true,true,false,false,false,true,false,false] rfl rfl (one_of HT_.out (by kernel_rfl)) (by decide) (fun K hK=> ?_)
 refine goes_ Tryd.func14 (by kernel_rfl) rfl #[.agg #[.int .i64 a0_0,.slice A0_1 l0_1.length c0_1],.slice Ao53 t452.length co53] (by rfl) rfl rfl ml_ ?_
 with_reducible refine (patch_Apply.calls kj4 a0_0 _ _ l0_1 _ _ t452 t455 t456 t459 _ ?side5 ?side1 ?side2 ?side3 ?side4 A18.out).mono ?_
 (case side1=>exact c0_)
 (case side2=>exact HC0_1.out)
 (case side3=>repeat (first|exact (Kd.N_reads' HO454.out).2.2|(with_reducible refine Kd.C_alloc ?_ _)|(with_reducible refine Kd.C_drewN ?_ _)|(with_reducible refine Kd.C_drew ?_)))
 (case side4=>exact (Kd.N_reads' HO454.out).2.1)
 (case side5=>exact PTabs.step HT.out b0_)
 rintro e w54 ⟨v457,rfl,ho0,hb⟩
 refine ⟨_,rfl,?_⟩
 have n0_:=Aside0.mk (Kd.N_below (xN_ HO454) hb)
 have n1_:=Aside0.mk (Kd.V_lower (Kd.V_mono (ok':=fun k_=>some k_≠(.slice Ao53 t452.length co53:Value).ownBlock∧k_≠gb448∧k_≠gb460) ho0 (fun k_ hk_=>⟨(Kd.fresh' (Kd.N_lt (xN_ HO454)) k_ hk_),(Kd.freshB (g:=gb448) (o:= .cells #[.int .i64 a0_0,.slice A0_1 l0_1.length c0_1] 24 (0,0)) k0_ k_ hk_),(Kd.freshB (g:=gb460) (o:= .cells #[.int .i64 0,.slice none 0 0] 24 (0,0)) k0_ k_ hk_)⟩)) (below_size b0_))
 have n2_:=Aside0.mk (bb_ BK448 hb)
 have n3_:=Aside0.mk (bb_ BK460 hb)
 have n4_:=Aside0.mk (below_step b0_ hb)
 clear HO454
 clear BK448
 clear BK460
 clear HB
 have HO454:=n0_
 have HO458:=n1_
 have BK448:=n2_
 have BK460:=n3_
 have HB:=n4_
 clear n0_ n1_ n2_ n3_ n4_
 (try clear hb)
 (try clear hk)
 (try clear ho0)
 refine hK.out _ _ ⟨(blk_cell BK448.out 0).trans rfl,(blk_cell BK448.out 1).trans rfl⟩ (fun hHeld=> ?_)
 clear hK K
 refine norm_ (a':=?_) ?_ ?_
 rotate_left
 {
 show Act.put _ (some 23) _=_
 simp only [Act.put,List.setIfInBounds_toArray,List.set_cons_zero,List.set_cons_succ,i64_w,i32_w]
 rfl
 }
 refine pA_ (i:=4) (N:=some 19) HT_ ?_
 refine pA_ (i:=5) (N:=some 24) HT_ ?_
 refine pA_ (i:=6) (N:=some 25) HT_ ?_
 exact norm_ (by simp only [putAll,Act.put,List.setIfInBounds_toArray,List.set_cons_zero,List.set_cons_succ]) (hCont (.slice Ao53 t452.length co53,v457,gb460) _ ⟨hHeld,(xN_ HO454),(xV_ HO458),k0_,k0_,GW460.out,GE460.out,NB448_460.out,NB460_448.out,b0_⟩)
 }
 }
 rintro ⟨v453,v457,gb460⟩ w55 ⟨hS_,h0_,h1_,h2_,h3_,h4_,h5_,h6_,h7_,h8_⟩
 have n0_:Aside0 (Kd.N k53 53 w55 w.heap.size (fun k_=>k_≠gb448∧k_≠gb460) v453 t452):=⟨h0_⟩
 have n1_:Aside0 (Kd.V k50 50 w55 w.heap.size (fun k_=>some k_≠(v453:Value).ownBlock∧k_≠gb448∧k_≠gb460) v457 t456):=⟨h1_⟩
 have n2_:Aside0 (w55.heap[gb448]?=some (.cells #[.int .i64 a0_0,.slice A0_1 l0_1.length c0_1] 24 (0,0))):=⟨h2_⟩
 have n3_:Aside0 (w55.heap[gb460]?=some (.cells #[.int .i64 0,.slice none 0 0] 24 (0,0))):=⟨h3_⟩
 have n4_:Aside0 (w.heap.size≤gb460):=⟨h4_⟩
 have n5_:Aside0 (w.heap.size≤gb460):=⟨h5_⟩
 have n6_:Aside0 (gb448≠gb460):=⟨h6_⟩
 have n7_:Aside0 (gb460≠gb448):=⟨h7_⟩
 have n8_:Aside0 (Below w.heap.size w w55):=⟨h8_⟩
 clear BK448
 clear HB
 clear h0_ h1_ h2_ h3_ h4_ h5_ h6_ h7_ h8_
 have HO454:=n0_
 have HO458:=n1_
 have BK448:=n2_
 have BK460:=n3_
 have GW460:=n4_
 have GE460:=n5_
 have NB448_460:=n6_
 have NB460_448:=n7_
 have HB:=n8_
 clear n0_ n1_ n2_ n3_ n4_ n5_ n6_ n7_ n8_
 have hHeld:w55.cell? ⟨gb448,0,none⟩=some (.int .i64 a0_0)∧w55.cell? ⟨gb448,1,none⟩=some (.slice A0_1 l0_1.length c0_1):=hS_
 obtain ⟨Ao57,co57,eo57⟩:=Kd.V_slice HO458.out
 (first|subst eo57|(injection eo57 with f1_ f2_ f3_;have f4_:=f1_.symm;have f5_:=f3_.symm;clear f1_ f2_ f3_;subst f4_;subst f5_))
 refine norm_ (a':=?_) ?_ ?_
 rotate_left
 {
 simp only [putAll,Act.put,List.setIfInBounds_toArray,List.set_cons_zero,List.set_cons_succ]
 rfl
 }
 refine one_ (i:=8) (N:=none) #[true,true,true,true,true,true,true,true,true,false] rfl rfl (one_of HT_.out (by kernel_rfl)) (by decide) (fun K hK=> ?_)
 have hs56:w55.cell? ⟨gb460,0,none⟩=some (.int .i64 0):=(blk_cell BK460.out 0).trans rfl
 have hfs56:=blk_frozen BK460.out 0
 have hns56_0:=NB448_460.out
 have hms56_0:=NB460_448.out
 have hs58:w55.cell? ⟨gb460,1,none⟩=some (.slice none 0 0):=(blk_cell BK460.out 1).trans rfl
 have hfs58:=blk_frozen BK460.out 1
 have hns58_0:=NB448_460.out
 have hms58_0:=NB460_448.out
 refine skip_ (w1:=?_) (by rfl) rfl ?_ ?_
 rotate_left
 {
 go_simp
 rfl
 }
 refine hK.out _ _ ⟨((cell_far (p:=⟨gb460,_,none⟩) NB448_460.out _).trans (((cell_far (p:=⟨gb460,_,none⟩) NB448_460.out _).trans (hHeld.1)))),((cell_far (p:=⟨gb460,_,none⟩) NB448_460.out _).trans (((cell_far (p:=⟨gb460,_,none⟩) NB448_460.out _).trans (hHeld.2))))⟩ (fun hHeld=> ?_)
 clear hK K
 refine pA_ (i:=9) (N:=some 6) HT_ ?_
 refine done_ (done_of HT_.out (by kernel_rfl)) ?_
 have hnb59:=NB460_448.out
 have hnc59:=NB448_460.out
 have hcz60_0:w55.cell? ⟨gb460,0,none⟩=some (.int .i64 0):=(blk_cell BK460.out 0).trans rfl;have hcz60_1:w55.cell? ⟨gb460,1,none⟩=some (.slice none 0 0):=(blk_cell BK460.out 1).trans rfl
 have hfz60_0:=blk_frozen BK460.out 0
 have hfz60_1:=blk_frozen BK460.out 1
 try go_wp2
 go_ret
 exact ⟨by first|rfl|((try rw [←Option.some.inj (A3.out.symm.trans A8.out)]);(try rw [←Option.some.inj (A3.out.symm.trans A10.out)]);(try rw [←Option.some.inj (A3.out.symm.trans A17.out)]);(try rw [←Option.some.inj (A3.out.symm.trans A18.out)]);(try rw [←Option.some.inj (A3.out.symm.trans A20.out)]);(try rw [←Option.some.inj (A3.out.symm.trans A22.out)]);(try rw [←Option.some.inj (A3.out.symm.trans A23.out)]);(try rw [←Option.some.inj (A3.out.symm.trans A24.out)]);(try rw [←Option.some.inj (A3.out.symm.trans A26.out)]);(try rw [←Option.some.inj (A8.out.symm.trans A10.out)]);(try rw [←Option.some.inj (A8.out.symm.trans A17.out)]);(try rw [←Option.some.inj (A8.out.symm.trans A18.out)]);(try rw [←Option.some.inj (A8.out.symm.trans A20.out)]);(try rw [←Option.some.inj (A8.out.symm.trans A22.out)]);(try rw [←Option.some.inj (A8.out.symm.trans A23.out)]);(try rw [←Option.some.inj (A8.out.symm.trans A24.out)]);(try rw [←Option.some.inj (A8.out.symm.trans A26.out)]);(try rw [←Option.some.inj (A10.out.symm.trans A17.out)]);(try rw [←Option.some.inj (A10.out.symm.trans A18.out)]);(try rw [←Option.some.inj (A10.out.symm.trans A20.out)]);(try rw [←Option.some.inj (A10.out.symm.trans A22.out)]);(try rw [←Option.some.inj (A10.out.symm.trans A23.out)]);(try rw [←Option.some.inj (A10.out.symm.trans A24.out)]);(try rw [←Option.some.inj (A10.out.symm.trans A26.out)]);(try rw [←Option.some.inj (A17.out.symm.trans A18.out)]);(try rw [←Option.some.inj (A17.out.symm.trans A20.out)]);(try rw [←Option.some.inj (A17.out.symm.trans A22.out)]);(try rw [←Option.some.inj (A17.out.symm.trans A23.out)]);(try rw [←Option.some.inj (A17.out.symm.trans A24.out)]);(try rw [←Option.some.inj (A17.out.symm.trans A26.out)]);(try rw [←Option.some.inj (A18.out.symm.trans A20.out)]);(try rw [←Option.some.inj (A18.out.symm.trans A22.out)]);(try rw [←Option.some.inj (A18.out.symm.trans A23.out)]);(try rw [←Option.some.inj (A18.out.symm.trans A24.out)]);(try rw [←Option.some.inj (A18.out.symm.trans A26.out)]);(try rw [←Option.some.inj (A20.out.symm.trans A22.out)]);(try rw [←Option.some.inj (A20.out.symm.trans A23.out)]);(try rw [←Option.some.inj (A20.out.symm.trans A24.out)]);(try rw [←Option.some.inj (A20.out.symm.trans A26.out)]);(try rw [←Option.some.inj (A22.out.symm.trans A23.out)]);(try rw [←Option.some.inj (A22.out.symm.trans A24.out)]);(try rw [←Option.some.inj (A22.out.symm.trans A26.out)]);(try rw [←Option.some.inj (A23.out.symm.trans A24.out)]);(try rw [←Option.some.inj (A23.out.symm.trans A26.out)]);(try rw [←Option.some.inj (A24.out.symm.trans A26.out)]);rfl)|(simp [errW_none,errW_some]<;>rfl)|(simp [*,errW_none,errW_some]<;>rfl),b0_⟩
 }
 }
  )
  )
 }
 {
 replace c4:=Bool.eq_false_iff.mpr c4
 subst c4
 replace H:=fn_ H
 exact absurd H (by simp)
 }
end
end Go.Proofs.YtdlolaognnbhpaaDoor.Pr
