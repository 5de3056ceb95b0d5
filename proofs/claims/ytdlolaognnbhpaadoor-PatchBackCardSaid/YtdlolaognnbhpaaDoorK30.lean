/- A part of the proof of laws of this seat: PatchBack, PatchDiff, PatchLeast, PatchMetric. Conditions: none of our own. -/
import Derived.Test.YtdlolaognnbhpaaDoorK8
import Derived.Test.YtdlolaognnbhpaaDoorK10
namespace Go.Proofs.YtdlolaognnbhpaaDoor.Pr
open Go.RowKit Go.Proofs.YtdlolaognnbhpaaDoorW.PrintWords Go.Proofs.YtdlolaognnbhpaaDoorW.PrintLast Go.Proofs.YtdlolaognnbhpaaDoorW.PrintMore
noncomputable section
attribute [local go_sem] max2_int min2_int max_two min_two max_three min_three max_four min_four
set_option linter.unusedVariables false
set_option linter.unusedSimpArgs false
def patch_Invert.l0:Nat→List (S53)→Int→List (S53)→Int→Int→Option ((List (S53))×Int)
 |0,_,_,_,_,_=>none
 |k+1,x4,x5,x11,x12,x13=>if x13<x12 then (if 0≤x13 then (if x13<(x11.length:Int) then ((patch_own.f k ((rd_T53 x11 x13).f2)).bind fun t509=>((patch_own.f k ((rd_T53 x11 x13).f1)).bind fun t512=>(if x4.length<2513169434916 then (patch_Invert.l0 k (x4++[(⟨wrap64 (((rd_T53 x11 x13).f0)+x5),t509,t512⟩:S53)]) (wrap64 (x5+(wrap64 ((((rd_T53 x11 x13).f2).length:Int) - (((rd_T53 x11 x13).f1).length:Int))))) x11 x12 (wrap64 (x13+1))) else (none)))) else (none)) else (none)) else (some (x4,0))
def patch_Invert.f (k:Nat) (l0:List (S53)):Option ((List (S53))×Int):=(patch_Valid.f k l0).bind fun t506=>(if t506=true then (patch_Invert.l0 k ([]:List (S53)) 0 l0 (l0.length:Int) 0) else (some (([]:List (S53)),1)))
def patch_Invert.T8:Bool×List (List Nat×List Nat):=(true,[([],[]),([],[]),([1],[1]),([],[]),([2,3],[2,3]),([],[]),([5],[5]),([6],[6]),([],[]),([8],[8]),([9,7],[9]),([4,7,10],[4,7,10]),([11],[11]),([0,12,10],[0,12]),([13,13,0,1,2,3,4,5,6,7,8,9,10,11,12,13],[0,13])])
def patch_Invert.B8:List Nat:=[0,0,2,0,14,0,32,96,0,256,992,2046,4094,8191,16383]
theorem patch_Invert.tab8:rtab .any (opsOf Tryd.f20 8)=patch_Invert.T8:=by kernel_rfl
theorem patch_Invert.bits8:waitsOk patch_Invert.T8.2 patch_Invert.B8=true:=by kernel_rfl
set_option maxHeartbeats 8000000 in
set_option maxRecDepth 100000 in
theorem patch_Invert.calls (k:Nat) (A0:Option Addr) (c0:Nat) (l0:List (S53)) (r1:List (S53)) (r2:Int) (w:World) (hr0:Kd.C k53 w A0 l0.length l0) (hc0:l0.length≤c0) (h:patch_Invert.f k l0=some (r1,r2)):
 Calls Tryd.prog 20 #[.slice A0 l0.length c0] w fun e w'=>∃ v0_:Value,e= .returned (.tuple #[v0_,.int .i64 r2])∧Kd.R k53 53 w' w.heap.size (fun _=>True) v0_ r1∧Below w.heap.size w w':=by
 have hu53:=Tryd.underlying53
 have HR0:=Aside0.mk hr0
 have HC0:=Aside0.mk hc0
 clear hr0 hc0
 have HB:=Aside0.mk (Below.refl w.heap.size w)
 have H:((patch_Valid.f k l0).bind fun t506=>(if t506=true then (patch_Invert.l0 k ([]:List (S53)) 0 l0 (l0.length:Int) 0) else (some (([]:List (S53)),1))))=some (r1,r2):=h
 clear h
 obtain ⟨t506,A2,H⟩:=ob_ H
 by_cases c3:t506=true
 {
 subst c3
 replace H:=tp_ H
 have H':=Aside0.mk H
 clear H
 go_enter Tryd.func20,Tryd.ntmps20
 go_wp2_with (first|((with_reducible refine gate_callee (f:=21) rfl ?_);refine gl_ (some 9) Tryd.func21 #[.slice A0 l0.length c0] ?_;(with_reducible refine (patch_Valid.calls k _ _ l0 true _ ?side1 ?side2 A2.out).mono ?_);(case side1=>repeat (first|exact HR0.out|(with_reducible refine Kd.C_alloc ?_ _)|(with_reducible refine Kd.C_drewN ?_ _)|(with_reducible refine Kd.C_drew ?_)));(case side2=>exact HC0.out);rintro e w4 ⟨rfl,hb⟩;refine ⟨_,rfl,?_⟩;have n0_:=Aside0.mk (below_step b0_ hb);clear HB;have HB:=n0_;clear n0_;(try clear hb);(try clear hk)))
 go_loopg [4,5,13] k (fun kq v4 v5 v13 w'=>∃ (x4_1:List (S53)) (x5_1:Int) (x13_1:Int),v5= .int .i64 x5_1∧v13= .int .i64 x13_1∧Aside0 (patch_Invert.l0 kq x4_1 x5_1 l0 (l0.length:Int) x13_1=some (r1,r2))∧Aside0 (kq≤k)∧Aside0 (Kd.R k53 53 w' w.heap.size (fun _=>True) v4 x4_1)∧Aside0 (Below w.heap.size w w'))
 case atStart=>exact ⟨(([]:List (S53))),(0),(0),r0_,r0_,H',⟨Nat.le_refl _⟩,⟨by first|exact Kd.R_nil _ _ _ _ _|exact Kd.N_nil _ _ _ _ _|exact Kd.V_nil _ _ _ _ _|exact Kd.Q_nil _ _ _ _ _|exact Kd.S_nil _ _ _ _ _⟩,⟨b0_⟩⟩
 case round=>
  (
 clear H'
 try clear c2
 try clear p2
 try clear c3
 obtain ⟨x4_1,x5_1,x13_1,rfl,rfl,HA,HK1,HO_4,HB⟩:=hrel
 cases gk with
 |zero=>exact absurd HA.out (by simp [patch_Invert.l0])
 |succ k1=>
  (
 have H:=HA.out
 clear HA
 simp only [patch_Invert.l0] at H
 by_cases c5:x13_1<(l0.length:Int)
 {
 rw [if_pos c5] at H
 have c5b0:decide (x13_1<(l0.length:Int))=true:=decide_eq_true c5
 clear c5
 by_cases c6:0≤x13_1
 {
 rw [if_pos c6] at H
 have c6b0:decide (0≤x13_1)=true:=decide_eq_true c6
 clear c6
 by_cases c7:x13_1<(l0.length:Int)
 {
 rw [if_pos c7] at H
 have c7b0:decide (x13_1<(l0.length:Int))=true:=decide_eq_true c7
 clear c7
 obtain ⟨t509,A8,H⟩:=ob_ H
 obtain ⟨t512,A9,H⟩:=ob_ H
 by_cases c10:x4_1.length<2513169434916
 {
 rw [if_pos c10] at H
 have LMc10:=Aside0.mk c10
 clear c10
 obtain ⟨y515,hy515⟩:∃ y_:List (S53),y_=(x4_1++[(⟨wrap64 (((rd_T53 l0 x13_1).f0)+x5_1),t509,t512⟩:S53)]):=⟨_,rfl⟩
 replace H:(patch_Invert.l0 k1 y515 (wrap64 (x5_1+(wrap64 ((((rd_T53 l0 x13_1).f2).length:Int) - (((rd_T53 l0 x13_1).f1).length:Int))))) l0 (l0.length:Int) (wrap64 (x13_1+1)))=some (r1,r2):=by first|(rw [hy515];with_reducible exact H)|(have H2_:=(Option.bind_some _ _).symm.trans H;rw [hy515];with_reducible exact H2_)|(have H2_:=(Option.bind_some _ _).symm.trans H;with_reducible exact H2_)|with_reducible exact H|(rw [hy515];exact H)|exact H
 have Ny515:=Aside0.mk hy515
 clear hy515
 have H':=Aside0.mk H
 clear H
 have p507:0≤(x13_1:Int):=od_
 have q507:x13_1<(l0.length:Int):=od_
 obtain ⟨ad507,A507_1,c507_1,A507_2,c507_2,e507,hx507_0,hx507_1,hx507_2,hl507_1,hi507_1,hl507_2,hi507_2⟩:=at_T53 HR0.out x13_1 p507 q507
 cases e507
 replace hx507_0:=cel_ HB hx507_0
 replace hx507_1:=cel_ HB hx507_1
 replace hx507_2:=cel_ HB hx507_2
 have HR507_1:=Aside0.mk hi507_1
 have HC507_1:=Aside0.mk hl507_1
 clear hi507_1 hl507_1
 have HR507_2:=Aside0.mk hi507_2
 have HC507_2:=Aside0.mk hl507_2
 clear hi507_2 hl507_2
 replace p507:=eq_true p507
 replace q507:=eq_true q507
 try go_wp2_with (first|((with_reducible refine gate_dst (N:=7) rfl ?_);refine bx_ (N:=7) (cs:=#[.int .i64 0,.slice none 0 0,.slice none 0 0]) (t:=53) ?_;intro gb508 hg w11 hbox hb;have n_:=as5_ (Kd.R_below (Kd.R_elderB (xR_ HO_4) gb508 (Nat.le_of_eq hg.symm)) hb) (below_step b0_ hb) (hbox) ((g0_ hg b0_:w.heap.size≤gb508)) ((g0_ hg b0_:w.heap.size≤gb508));clear HO_4 HB;obtain ⟨HO_4,HB,BK508,GW508,GE508⟩:=n_;clear hb hbox hg;obtain ⟨hcz12_0,hcz12_1,hcz12_2,hfz12_0,hfz12_1,hfz12_2⟩:=ce3_ BK508))
 have n0_:Aside0 (Kd.R k53 53 (((w11.setCell ⟨gb508,0,none⟩ (.int .i64 ((rd_T53 l0 x13_1).f0))).setCell ⟨gb508,1,none⟩ (.slice A507_1 ((rd_T53 l0 x13_1).f1).length c507_1)).setCell ⟨gb508,2,none⟩ (.slice A507_2 ((rd_T53 l0 x13_1).f2).length c507_2)) w.heap.size (fun k_=>k_≠gb508) u4 x4_1):=⟨by (with_reducible repeat (first|apply Kd.R_alloc|apply Kd.R_drewN|apply Kd.R_drew));exact Kd.R_mono (Kd.R_far (p:=⟨gb508,2,none⟩) (Kd.R_far (p:=⟨gb508,1,none⟩) (Kd.R_far (p:=⟨gb508,0,none⟩) (Kd.R_mono HO_4.out (fun k_ hk=>(⟨hk,hk.2⟩:_∧k_≠gb508))) (fun _ hk=>hk.2) (.int .i64 ((rd_T53 l0 x13_1).f0))) (fun _ hk=>hk.2) (.slice A507_1 ((rd_T53 l0 x13_1).f1).length c507_1)) (fun _ hk=>hk.2) (.slice A507_2 ((rd_T53 l0 x13_1).f2).length c507_2)) (fun _ hk=>hk.1.2)⟩
 have n1_:Aside0 ((((w11.setCell ⟨gb508,0,none⟩ (.int .i64 ((rd_T53 l0 x13_1).f0))).setCell ⟨gb508,1,none⟩ (.slice A507_1 ((rd_T53 l0 x13_1).f1).length c507_1)).setCell ⟨gb508,2,none⟩ (.slice A507_2 ((rd_T53 l0 x13_1).f2).length c507_2)).heap[gb508]?=some (.cells #[.int .i64 ((rd_T53 l0 x13_1).f0),.slice A507_1 ((rd_T53 l0 x13_1).f1).length c507_1,.slice A507_2 ((rd_T53 l0 x13_1).f2).length c507_2] 53 (0,0))):=⟨by (with_reducible repeat (first|refine blk_drewN ?_ _|refine blk_drew ?_|refine blk_alloc ?_ _));refine blk_put (cs:=#[.int .i64 ((rd_T53 l0 x13_1).f0),.slice A507_1 ((rd_T53 l0 x13_1).f1).length c507_1,.slice none 0 0]) ?_ 2 _ rfl;(with_reducible repeat (first|refine blk_drewN ?_ _|refine blk_drew ?_|refine blk_alloc ?_ _));refine blk_put (cs:=#[.int .i64 ((rd_T53 l0 x13_1).f0),.slice none 0 0,.slice none 0 0]) ?_ 1 _ rfl;(with_reducible repeat (first|refine blk_drewN ?_ _|refine blk_drew ?_|refine blk_alloc ?_ _));refine blk_put (cs:=#[.int .i64 0,.slice none 0 0,.slice none 0 0]) ?_ 0 _ rfl;(with_reducible repeat (first|refine blk_drewN ?_ _|refine blk_drew ?_|refine blk_alloc ?_ _));exact BK508.out⟩
 have n2_:Aside0 (Below w.heap.size w (((w11.setCell ⟨gb508,0,none⟩ (.int .i64 ((rd_T53 l0 x13_1).f0))).setCell ⟨gb508,1,none⟩ (.slice A507_1 ((rd_T53 l0 x13_1).f1).length c507_1)).setCell ⟨gb508,2,none⟩ (.slice A507_2 ((rd_T53 l0 x13_1).f2).length c507_2))):=⟨b0_⟩
 (try clear HO_4)
 (try clear BK508)
 (try clear HB)
 generalize (((w11.setCell ⟨gb508,0,none⟩ (.int .i64 ((rd_T53 l0 x13_1).f0))).setCell ⟨gb508,1,none⟩ (.slice A507_1 ((rd_T53 l0 x13_1).f1).length c507_1)).setCell ⟨gb508,2,none⟩ (.slice A507_2 ((rd_T53 l0 x13_1).f2).length c507_2))=w13 at n0_ n1_ n2_⊢
 have HO_4:=n0_
 have BK508:=n1_
 have HB:=n2_
 clear n0_ n1_ n2_
 have n0_:=Aside0.mk (Kd.R_drew HO_4.out)
 have n1_:=Aside0.mk (blk_drew BK508.out)
 have n2_:=Aside0.mk (below_drew1 HB.out)
 clear HO_4
 clear BK508
 clear HB
 have HO_4:=n0_
 have BK508:=n1_
 have HB:=n2_
 clear n0_ n1_ n2_
 refine start_ (n:=15) (S:=fun w'=>w'.cell? ⟨gb508,0,none⟩=some (.int .i64 ((rd_T53 l0 x13_1).f0))∧w'.cell? ⟨gb508,1,none⟩=some (.slice A507_1 ((rd_T53 l0 x13_1).f1).length c507_1)∧w'.cell? ⟨gb508,2,none⟩=some (.slice A507_2 ((rd_T53 l0 x13_1).f2).length c507_2)) (ds:=[]) #[false,false,false,false,false,false,false,false,false,false,false,false,false,false,false] (by kernel_rfl) rfl rfl ⟨(blk_cell BK508.out 0).trans rfl,(blk_cell BK508.out 1).trans rfl,(blk_cell BK508.out 2).trans rfl⟩ (fun hHeld=> ?_);refine with_tabW patch_Invert.tab8 patch_Invert.bits8 (fun HT_ HW_=> ?_)
 generalize w13.drew=w14 at HO_4 BK508 HB hHeld⊢
 refine pA_ (i:=0) (N:=some 17) HT_ ?_
 refine pA_ (i:=1) (N:=some 18) HT_ ?_
 refine pA_ (i:=3) (N:=some 20) HT_ ?_
 refine pA_ (i:=5) (N:=some 22) HT_ ?_
 refine pA_ (i:=8) (N:=some 25) HT_ ?_
 refine tA_ (i:=2) (N:=some 19) HT_ HW_ hHeld ?_
 refine pA_ (i:=4) (N:=some 21) HT_ ?_
 refine tA_ (i:=6) (N:=some 23) HT_ HW_ hHeld ?_
 refine tA_ (i:=9) (N:=some 26) HT_ HW_ hHeld ?_
 refine one_ (i:=7) (N:=some 24) #[true,true,true,true,true,true,true,true,true,true,false,false,false,false,false] rfl rfl (one_of HT_.out (by kernel_rfl)) (by decide) (fun K hK=> ?_)
 refine goes_ Tryd.func34 (by kernel_rfl) rfl #[.slice A507_2 ((rd_T53 l0 x13_1).f2).length c507_2] (by rfl) rfl rfl ml_ ?_
 with_reducible refine (patch_own.calls k1 _ _ ((rd_T53 l0 x13_1).f2) t509 _ ?side1 ?side2 A8.out).mono ?_
 (case side1=>exact c0_)
 (case side2=>exact HC507_2.out)
 rintro e w15 ⟨v510,rfl,ho0,hb⟩
 refine ⟨_,rfl,?_⟩
 have n0_:=Aside0.mk (Kd.R_elder' (xR_ HO_4) (Kd.S_base ho0) hb)
 have n1_:=Aside0.mk (Kd.S_lower ho0 (below_size b0_))
 have n2_:=Aside0.mk (bb_ BK508 hb)
 have n3_:=Aside0.mk (below_step b0_ hb)
 clear HO_4
 clear BK508
 clear HB
 have HO_4:=n0_
 have HO511:=n1_
 have BK508:=n2_
 have HB:=n3_
 clear n0_ n1_ n2_ n3_
 (try clear hb)
 (try clear hk)
 (try clear ho0)
 refine hK.out _ _ ⟨(blk_cell BK508.out 0).trans rfl,(blk_cell BK508.out 1).trans rfl,(blk_cell BK508.out 2).trans rfl⟩ (fun hHeld=> ?_)
 clear hK K
 refine norm_ (a':=?_) ?_ ?_
 rotate_left
 {
 show Act.put _ (some 24) _=_
 simp only [Act.put,List.setIfInBounds_toArray,List.set_cons_zero,List.set_cons_succ,i64_w,i32_w]
 rfl
 }
 refine one_ (i:=10) (N:=some 27) #[true,true,true,true,true,true,true,true,true,true,true,false,false,false,false] rfl rfl (one_of HT_.out (by kernel_rfl)) (by decide) (fun K hK=> ?_)
 refine goes_ Tryd.func34 (by kernel_rfl) rfl #[.slice A507_1 ((rd_T53 l0 x13_1).f1).length c507_1] (by rfl) rfl rfl ml_ ?_
 with_reducible refine (patch_own.calls k1 _ _ ((rd_T53 l0 x13_1).f1) t512 _ ?side1 ?side2 A9.out).mono ?_
 (case side1=>exact c0_)
 (case side2=>exact HC507_1.out)
 rintro e w16 ⟨v513,rfl,ho0,hb⟩
 refine ⟨_,rfl,?_⟩
 have n0_:=Aside0.mk (Kd.R_elder' (xR_ HO_4) (Kd.S_base ho0) hb)
 have n1_:=Aside0.mk (Kd.S_elder' (xS_ HO511) (Kd.S_base ho0) hb)
 have n2_:=Aside0.mk (Kd.S_lower (Kd.S_new' ho0 (Kd.S_lt (xS_ HO511))) (below_size b0_))
 have n3_:=Aside0.mk (bb_ BK508 hb)
 have n4_:=Aside0.mk (below_step b0_ hb)
 clear HO_4
 clear HO511
 clear BK508
 clear HB
 have HO_4:=n0_
 have HO511:=n1_
 have HO514:=n2_
 have BK508:=n3_
 have HB:=n4_
 clear n0_ n1_ n2_ n3_ n4_
 (try clear hb)
 (try clear hk)
 (try clear ho0)
 obtain ⟨Ao17,co17,eo17⟩:=Kd.S_slice HO514.out
 (first|subst eo17|(injection eo17 with f1_ f2_ f3_;have f4_:=f1_.symm;have f5_:=f3_.symm;clear f1_ f2_ f3_;subst f4_;subst f5_))
 obtain ⟨Ao18,co18,eo18⟩:=Kd.S_slice HO511.out
 (first|subst eo18|(injection eo18 with f1_ f2_ f3_;have f4_:=f1_.symm;have f5_:=f3_.symm;clear f1_ f2_ f3_;subst f4_;subst f5_))
 refine hK.out _ _ ⟨(blk_cell BK508.out 0).trans rfl,(blk_cell BK508.out 1).trans rfl,(blk_cell BK508.out 2).trans rfl⟩ (fun hHeld=> ?_)
 clear hK K
 refine norm_ (a':=?_) ?_ ?_
 rotate_left
 {
 show Act.put _ (some 27) _=_
 simp only [Act.put,List.setIfInBounds_toArray,List.set_cons_zero,List.set_cons_succ,i64_w,i32_w]
 rfl
 }
 refine pA_ (i:=11) (N:=some 28) HT_ ?_
 refine one_ (i:=12) (N:=some 29) #[true,true,true,true,true,true,true,true,true,true,true,true,true,false,false] rfl rfl (one_of HT_.out (by kernel_rfl)) (by decide) (fun K hK=> ?_)
 refine value_ (w1:=?_) (v:=?_) (by rfl) rfl ?_ ?_
 rotate_left 2
 {
 go_simp
 constructor
 {
 rfl
 }
 {
 rfl
 }
 }
 refine hK.out _ _ ⟨(blk_cell (blk_alloc BK508.out _) 0).trans rfl,(blk_cell (blk_alloc BK508.out _) 1).trans rfl,(blk_cell (blk_alloc BK508.out _) 2).trans rfl⟩ (fun hHeld=> ?_)
 clear hK K
 refine norm_ (a':=?_) ?_ ?_
 rotate_left
 {
 show Act.put _ (some 29) _=_
 simp only [Act.put,List.setIfInBounds_toArray,List.set_cons_zero,List.set_cons_succ,i64_w,i32_w]
 rfl
 }
 refine one_ (i:=13) (N:=some 30) #[true,true,true,true,true,true,true,true,true,true,true,true,true,true,false] rfl rfl (one_of HT_.out (by kernel_rfl)) (by decide) (fun K hK=> ?_)
 refine Kd.R_append_step k53 (w0:=w) w.heap.size (by rfl) (.tmp 17) (.tmp 29) 27 53 (.agg #[(.int .i64 0),(.slice none 0 0),(.slice none 0 0)]) 56 rfl Tryd.underlying27 info53 rfl (by decide) (by omega) u4 x4_1 (⟨wrap64 (((rd_T53 l0 x13_1).f0)+x5_1),t509,t512⟩:S53) [.int .i64 (wrap64 (((rd_T53 l0 x13_1).f0)+x5_1)),.slice Ao18 t509.length co18,.slice Ao17 t512.length co17] (fun k_=>k_≠gb508) (fun k_=>((fun k_=>k_≠gb508)) k_∧some k_≠(u4:Value).ownBlock) rfl rfl ?aP (fun _ hk=>hk) ?aF ?aO ?aB ?aS ?aL ?_
 (case aP=>exact k53_mkM _ _ _ (⟨wrap64 (((rd_T53 l0 x13_1).f0)+x5_1),t509,t512⟩:S53) (Kd.R_mono (Kd.R_types (Kd.R_apart' ((Kd.S_R HO511.out)) (Kd.R_typed HO_4.out) (by decide)) BK508.out (by decide)) (fun k_ hk=>⟨hk.2,hk.1.2⟩)) (Kd.R_mono (Kd.R_types (Kd.R_apart' ((Kd.S_R HO514.out)) (Kd.R_typed HO_4.out) (by decide)) BK508.out (by decide)) (fun k_ hk=>⟨hk.2,hk.1.2⟩)))
 (case aB=>exact b0_)
 (case aF=>exact (fun k_ hk=>Kd.freshB (g:=gb508) (o:= .cells #[.int .i64 ((rd_T53 l0 x13_1).f0),.slice A507_1 ((rd_T53 l0 x13_1).f1).length c507_1,.slice A507_2 ((rd_T53 l0 x13_1).f2).length c507_2] 53 (0,0)) k0_ k_ hk))
 (case aO=>exact (by (with_reducible repeat (first|apply Kd.R_alloc|apply Kd.R_drewN|apply Kd.R_drew));exact Kd.R_mono HO_4.out (fun _ hk=>hk.1.1)))
 (case aS=>exact (below_size b0_))
 (case aL=>have:=LMc10.out;omega)
 intro v516 w19 ho hb hg hat
 rw [←Ny515.out] at ho
 have n0_:=Aside0.mk (blk_grown (g:=gb508) (o:= .cells #[.int .i64 ((rd_T53 l0 x13_1).f0),.slice A507_1 ((rd_T53 l0 x13_1).f1).length c507_1,.slice A507_2 ((rd_T53 l0 x13_1).f2).length c507_2] 53 (0,0)) k0_ hg (Kd.R_away HO_4.out (fun _ hk=>hk.1.1)))
 have n1_:=Aside0.mk (hb)
 have n2_:=Aside0.mk (ho)
 clear BK508
 clear HB
 clear HO_4
 clear HO511
 clear HO514
 have BK508:=n0_
 have HB:=n1_
 have HO517:=n2_
 clear n0_ n1_ n2_
 clear ho hb hg hat
 refine hK.out _ _ ⟨(blk_cell BK508.out 0).trans rfl,(blk_cell BK508.out 1).trans rfl,(blk_cell BK508.out 2).trans rfl⟩ (fun hHeld=> ?_)
 clear hK K
 refine norm_ (a':=?_) ?_ ?_
 rotate_left
 {
 show Act.put _ (some 30) _=_
 simp only [Act.put,List.setIfInBounds_toArray,List.set_cons_zero,List.set_cons_succ,i64_w,i32_w]
 rfl
 }
 refine pA_ (i:=14) (N:=some 4) HT_ ?_
 refine done_ (done_of HT_.out (by kernel_rfl)) ?_
 have hcz20_0:w19.cell? ⟨gb508,0,none⟩=some (.int .i64 ((rd_T53 l0 x13_1).f0)):=(blk_cell BK508.out 0).trans rfl;have hcz20_1:w19.cell? ⟨gb508,1,none⟩=some (.slice A507_1 ((rd_T53 l0 x13_1).f1).length c507_1):=(blk_cell BK508.out 1).trans rfl;have hcz20_2:w19.cell? ⟨gb508,2,none⟩=some (.slice A507_2 ((rd_T53 l0 x13_1).f2).length c507_2):=(blk_cell BK508.out 2).trans rfl
 have hfz20_0:=blk_frozen BK508.out 0
 have hfz20_1:=blk_frozen BK508.out 1
 have hfz20_2:=blk_frozen BK508.out 2
 try go_wp2
 go_roundg k1
 case measure=>have:=HK1.out;omega
 case rel=>exact ⟨(y515),(wrap64 (x5_1+(wrap64 ((((rd_T53 l0 x13_1).f2).length:Int) - (((rd_T53 l0 x13_1).f1).length:Int))))),(wrap64 (x13_1+1)),r0_,r0_,H',⟨by have:=HK1.out;omega⟩,⟨by (with_reducible repeat (first|apply Kd.R_alloc|apply Kd.R_drewN|apply Kd.R_drew));exact Kd.R_mono HO517.out (fun _ hk=>trivial)⟩,⟨b0_⟩⟩
 }
 {
 rw [if_neg c10] at H
 exact absurd H (by simp)
 }
 }
 {
 rw [if_neg c7] at H
 exact absurd H (by simp)
 }
 }
 {
 rw [if_neg c6] at H
 exact absurd H (by simp)
 }
 }
 {
 rw [if_neg c5] at H
 have c5b0:decide (x13_1<(l0.length:Int))=false:=decide_eq_false c5
 clear c5
 simp only [Option.some.injEq,Prod.mk.injEq] at H
 obtain ⟨rfl,rfl⟩:=H
 go_wp2
 go_ret2
 exact ⟨_,r1_,by (with_reducible repeat (first|apply Kd.R_alloc|apply Kd.R_drewN|apply Kd.R_drew));exact HO_4.out,b0_⟩
 }
  )
  )
 }
 {
 replace c3:=Bool.eq_false_iff.mpr c3
 subst c3
 replace H:=fn_ H
 simp only [Option.some.injEq,Prod.mk.injEq] at H
 obtain ⟨rfl,rfl⟩:=H
 go_enter Tryd.func20,Tryd.ntmps20
 go_wp2_with (first|((with_reducible refine gate_callee (f:=21) rfl ?_);refine gl_ (some 9) Tryd.func21 #[.slice A0 l0.length c0] ?_;(with_reducible refine (patch_Valid.calls k _ _ l0 false _ ?side1 ?side2 A2.out).mono ?_);(case side1=>repeat (first|exact HR0.out|(with_reducible refine Kd.C_alloc ?_ _)|(with_reducible refine Kd.C_drewN ?_ _)|(with_reducible refine Kd.C_drew ?_)));(case side2=>exact HC0.out);rintro e w21 ⟨rfl,hb⟩;refine ⟨_,rfl,?_⟩;have n0_:=Aside0.mk (below_step b0_ hb);clear HB;have HB:=n0_;clear n0_;(try clear hb);(try clear hk)))
 go_ret2
 exact ⟨_,r1_,by first|exact Kd.R_nil _ _ _ _ _|exact Kd.N_nil _ _ _ _ _|exact Kd.V_nil _ _ _ _ _|exact Kd.Q_nil _ _ _ _ _|exact Kd.S_nil _ _ _ _ _,b0_⟩
 }
end
end Go.Proofs.YtdlolaognnbhpaaDoor.Pr
