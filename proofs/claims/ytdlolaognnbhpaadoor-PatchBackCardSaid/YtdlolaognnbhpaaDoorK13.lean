/- A part of the proof of laws of this seat: PatchBack, PatchDiff, PatchLeast, PatchMetric. Conditions: none of our own. -/
import Derived.Test.YtdlolaognnbhpaaDoorK12
namespace Go.Proofs.YtdlolaognnbhpaaDoor.Pr
open Go.RowKit Go.Proofs.YtdlolaognnbhpaaDoorW.PrintWords Go.Proofs.YtdlolaognnbhpaaDoorW.PrintLast Go.Proofs.YtdlolaognnbhpaaDoorW.PrintMore
noncomputable section
attribute [local go_sem] max2_int min2_int max_two min_two max_three min_three max_four min_four
set_option linter.unusedVariables false
set_option linter.unusedSimpArgs false
def bookplateref12_SameFields.l0:Nat→List (S50)→List (S50)→Int→Option (Bool)
 |0,_,_,_=>none
 |k+1,x0,x1,x5=>if x5<(x0.length:Int) then (if 0≤x5 then (if x5<(x1.length:Int) then ((bookplateref12_SameField.f k ((rd_T50 x0 x5).f0) ((rd_T50 x0 x5).f1.f0) ((rd_T50 x0 x5).f1.f1) ((rd_T50 x0 x5).f2) ((rd_T50 x1 x5).f0) ((rd_T50 x1 x5).f1.f0) ((rd_T50 x1 x5).f1.f1) ((rd_T50 x1 x5).f2)).bind fun t261=>(if t261=true then (bookplateref12_SameFields.l0 k x0 x1 (wrap64 (x5+1))) else (some false))) else (none)) else (none)) else (some true)
def bookplateref12_SameFields.f (k:Nat) (l0:List (S50)) (l1:List (S50)):Option (Bool):=if (l0.length:Int)=(l1.length:Int) then (bookplateref12_SameFields.l0 k l0 l1 0) else (some false)
def bookplateref12_SameFields.T6:Bool×List (List Nat×List Nat):=(true,[([],[]),([],[]),([0,1],[0,1]),([2],[2]),([],[]),([],[]),([4,5],[4,5]),([6],[6]),([3,7],[3,7]),([8],[8])])
def bookplateref12_SameFields.B6:List Nat:=[0,0,3,7,0,0,48,112,255,511]
theorem bookplateref12_SameFields.tab6:rtab .any (opsOf Tryd.f26 6)=bookplateref12_SameFields.T6:=by kernel_rfl
theorem bookplateref12_SameFields.bits6:waitsOk bookplateref12_SameFields.T6.2 bookplateref12_SameFields.B6=true:=by kernel_rfl
set_option maxHeartbeats 8000000 in
set_option maxRecDepth 100000 in
theorem bookplateref12_SameFields.calls (k:Nat) (A0:Option Addr) (c0:Nat) (l0:List (S50)) (A1:Option Addr) (c1:Nat) (l1:List (S50)) (r:Bool) (w:World) (hr0:Kd.C k50 w A0 l0.length l0) (hc0:l0.length≤c0) (hr1:Kd.C k50 w A1 l1.length l1) (hc1:l1.length≤c1) (h:bookplateref12_SameFields.f k l0 l1=some r):
 Calls Tryd.prog 26 #[.slice A0 l0.length c0,.slice A1 l1.length c1] w fun e w'=>e= .returned (.bool r)∧Below w.heap.size w w':=by
 have hu50:=Tryd.underlying50
 have HR0:=Aside0.mk hr0
 have HC0:=Aside0.mk hc0
 clear hr0 hc0
 have HR1:=Aside0.mk hr1
 have HC1:=Aside0.mk hc1
 clear hr1 hc1
 have HB:=Aside0.mk (Below.refl w.heap.size w)
 have H:(if (l0.length:Int)=(l1.length:Int) then (bookplateref12_SameFields.l0 k l0 l1 0) else (some false))=some r:=h
 clear h
 by_cases c3:(l0.length:Int)=(l1.length:Int)
 {
 rw [if_pos c3] at H
 have c3b0:((l0.length:Int)==(l1.length:Int))=true:=beq_iff_eq.mpr c3
 have c3b1:((l0.length:Int) !=(l1.length:Int))=false:=bne_eq_false_iff_eq.mpr c3
 have c3b2:(l0.length==l1.length)=true:=by first|simpa using c3|(simp at c3⊢;omega)
 clear c3
 have H':=Aside0.mk H
 clear H
 go_enter Tryd.func26,Tryd.ntmps26
 go_wp2
 go_loopg [5] k (fun kq v5 w'=>∃ (x5_1:Int),v5= .int .i64 x5_1∧Aside0 (bookplateref12_SameFields.l0 kq l0 l1 x5_1=some r)∧Aside0 (kq≤k)∧Aside0 (Below w.heap.size w w'))
 case atStart=>exact ⟨(0),r0_,H',⟨Nat.le_refl _⟩,⟨b0_⟩⟩
 case round=>
  (
 clear H'
 try clear c1
 try clear c2
 try clear p2
 try clear c3
 try clear c3b0
 try clear c3b1
 try clear c3b2
 obtain ⟨x5_1,rfl,HA,HK1,HB⟩:=hrel
 cases gk with
 |zero=>exact absurd HA.out (by simp [bookplateref12_SameFields.l0])
 |succ k1=>
  (
 have H:=HA.out
 clear HA
 simp only [bookplateref12_SameFields.l0] at H
 by_cases c4:x5_1<(l0.length:Int)
 {
 rw [if_pos c4] at H
 have c4b0:decide (x5_1<(l0.length:Int))=true:=decide_eq_true c4
 clear c4
 by_cases c5:0≤x5_1
 {
 rw [if_pos c5] at H
 have c5b0:decide (0≤x5_1)=true:=decide_eq_true c5
 clear c5
 by_cases c6:x5_1<(l1.length:Int)
 {
 rw [if_pos c6] at H
 have c6b0:decide (x5_1<(l1.length:Int))=true:=decide_eq_true c6
 clear c6
 obtain ⟨t261,A7,H⟩:=ob_ H
 by_cases c8:t261=true
 {
 subst c8
 replace H:=tp_ H
 have H':=Aside0.mk H
 clear H
 try go_wp2
 have n0_:=Aside0.mk (below_drew1 HB.out)
 clear HB
 have HB:=n0_
 clear n0_
 have p259:0≤(x5_1:Int):=od_
 have q259:x5_1<(l0.length:Int):=od_
 obtain ⟨ad259,A259_3,c259_3,e259,hx259_0,hx259_1,hx259_2,hx259_3,hl259_3,hi259_3⟩:=at_T50 HR0.out x5_1 p259 q259
 have hw259_3:=hx259_3
 have hw259_2:=hx259_2
 have hw259_1:=hx259_1
 have hw259_0:=hx259_0
 cases e259
 replace hx259_0:=cel_ HB hx259_0
 replace hx259_1:=cel_ HB hx259_1
 replace hx259_2:=cel_ HB hx259_2
 replace hx259_3:=cel_ HB hx259_3
 have HR259_3:=Aside0.mk hi259_3
 have HC259_3:=Aside0.mk hl259_3
 clear hi259_3 hl259_3
 replace p259:=eq_true p259
 replace q259:=eq_true q259
 have p260:0≤(x5_1:Int):=od_
 have q260:x5_1<(l1.length:Int):=od_
 obtain ⟨ad260,A260_3,c260_3,e260,hx260_0,hx260_1,hx260_2,hx260_3,hl260_3,hi260_3⟩:=at_T50 HR1.out x5_1 p260 q260
 have hw260_3:=hx260_3
 have hw260_2:=hx260_2
 have hw260_1:=hx260_1
 have hw260_0:=hx260_0
 cases e260
 replace hx260_0:=cel_ HB hx260_0
 replace hx260_1:=cel_ HB hx260_1
 replace hx260_2:=cel_ HB hx260_2
 replace hx260_3:=cel_ HB hx260_3
 have HR260_3:=Aside0.mk hi260_3
 have HC260_3:=Aside0.mk hl260_3
 clear hi260_3 hl260_3
 replace p260:=eq_true p260
 replace q260:=eq_true q260
 refine start_ (n:=10) (S:=fun w'=>w'.cell? (ad259.add ((x5_1).toNat * 4))=some (.string ((rd_T50 l0 x5_1).f0))∧w'.cell? ⟨(ad259.add ((x5_1).toNat * 4)).block,(ad259.add ((x5_1).toNat * 4)).off+1,none⟩=some (.int .u8 ((rd_T50 l0 x5_1).f1.f0))∧w'.cell? ⟨(ad259.add ((x5_1).toNat * 4)).block,(ad259.add ((x5_1).toNat * 4)).off+2,none⟩=some (.int .u8 ((rd_T50 l0 x5_1).f1.f1))∧w'.cell? ⟨(ad259.add ((x5_1).toNat * 4)).block,(ad259.add ((x5_1).toNat * 4)).off+3,none⟩=some (.slice A259_3 ((rd_T50 l0 x5_1).f2).length c259_3)∧w'.cell? (ad260.add ((x5_1).toNat * 4))=some (.string ((rd_T50 l1 x5_1).f0))∧w'.cell? ⟨(ad260.add ((x5_1).toNat * 4)).block,(ad260.add ((x5_1).toNat * 4)).off+1,none⟩=some (.int .u8 ((rd_T50 l1 x5_1).f1.f0))∧w'.cell? ⟨(ad260.add ((x5_1).toNat * 4)).block,(ad260.add ((x5_1).toNat * 4)).off+2,none⟩=some (.int .u8 ((rd_T50 l1 x5_1).f1.f1))∧w'.cell? ⟨(ad260.add ((x5_1).toNat * 4)).block,(ad260.add ((x5_1).toNat * 4)).off+3,none⟩=some (.slice A260_3 ((rd_T50 l1 x5_1).f2).length c260_3)) (ds:=[]) #[false,false,false,false,false,false,false,false,false,false] (by kernel_rfl) rfl rfl ⟨(cel_ HB hw259_0),(cel_ HB hw259_1),(cel_ HB hw259_2),(cel_ HB hw259_3),(cel_ HB hw260_0),(cel_ HB hw260_1),(cel_ HB hw260_2),(cel_ HB hw260_3)⟩ (fun hHeld=> ?_);refine with_tabW bookplateref12_SameFields.tab6 bookplateref12_SameFields.bits6 (fun HT_ HW_=> ?_)
 generalize wr.drew=w9 at HB HR259_3 HR260_3 hx259_0 hx259_1 hx259_2 hx259_3 hx260_0 hx260_1 hx260_2 hx260_3 hHeld⊢
 refine pA_ (i:=0) (N:=some 17) HT_ ?_
 refine pA_ (i:=1) (N:=some 18) HT_ ?_
 refine pA_ (i:=2) (N:=some 19) HT_ ?_
 refine pA_ (i:=4) (N:=some 21) HT_ ?_
 refine pA_ (i:=5) (N:=some 22) HT_ ?_
 refine pA_ (i:=6) (N:=some 23) HT_ ?_
 refine tA_ (i:=3) (N:=some 20) HT_ HW_ hHeld ?_
 refine tA_ (i:=7) (N:=some 24) HT_ HW_ hHeld ?_
 refine one_ (i:=8) (N:=some 25) #[true,true,true,true,true,true,true,true,true,false] rfl rfl (one_of HT_.out (by kernel_rfl)) (by decide) (fun K hK=> ?_)
 refine goes_ Tryd.func40 (by kernel_rfl) rfl #[.agg #[.string ((rd_T50 l0 x5_1).f0),.int .u8 ((rd_T50 l0 x5_1).f1.f0),.int .u8 ((rd_T50 l0 x5_1).f1.f1),.slice A259_3 ((rd_T50 l0 x5_1).f2).length c259_3],.agg #[.string ((rd_T50 l1 x5_1).f0),.int .u8 ((rd_T50 l1 x5_1).f1.f0),.int .u8 ((rd_T50 l1 x5_1).f1.f1),.slice A260_3 ((rd_T50 l1 x5_1).f2).length c260_3]] (by rfl) rfl rfl ml_ ?_
 with_reducible refine (bookplateref12_SameField.calls k1 ((rd_T50 l0 x5_1).f0) ((rd_T50 l0 x5_1).f1.f0) ((rd_T50 l0 x5_1).f1.f1) _ _ ((rd_T50 l0 x5_1).f2) ((rd_T50 l1 x5_1).f0) ((rd_T50 l1 x5_1).f1.f0) ((rd_T50 l1 x5_1).f1.f1) _ _ ((rd_T50 l1 x5_1).f2) true _ ?side1 ?side2 ?side3 ?side4 A7.out).mono ?_
 (case side1=>exact c0_)
 (case side2=>exact HC259_3.out)
 (case side3=>exact c0_)
 (case side4=>exact HC260_3.out)
 rintro e w10 ⟨rfl,hb⟩
 refine ⟨_,rfl,?_⟩
 have n0_:=Aside0.mk (below_step b0_ hb)
 clear HB
 have HB:=n0_
 clear n0_
 (try clear hb)
 refine hK.out _ _ ⟨(cel_ HB hw259_0),(cel_ HB hw259_1),(cel_ HB hw259_2),(cel_ HB hw259_3),(cel_ HB hw260_0),(cel_ HB hw260_1),(cel_ HB hw260_2),(cel_ HB hw260_3)⟩ (fun hHeld=> ?_)
 clear hK K
 refine norm_ (a':=?_) ?_ ?_
 rotate_left
 {
 show Act.put _ (some 25) _=_
 simp only [Act.put,List.setIfInBounds_toArray,List.set_cons_zero,List.set_cons_succ,i64_w,i32_w]
 rfl
 }
 refine pA_ (i:=9) (N:=some 26) HT_ ?_
 refine done_ (done_of HT_.out (by kernel_rfl)) ?_
 try go_wp2
 go_roundg k1
 case measure=>have:=HK1.out;omega
 case rel=>exact ⟨(wrap64 (x5_1+1)),r0_,H',⟨by have:=HK1.out;omega⟩,⟨b0_⟩⟩
 }
 {
 replace c8:=Bool.eq_false_iff.mpr c8
 subst c8
 replace H:=fn_ H
 obtain rfl:=Option.some.inj H
 try go_wp2
 have n0_:=Aside0.mk (below_drew1 HB.out)
 clear HB
 have HB:=n0_
 clear n0_
 have p259:0≤(x5_1:Int):=od_
 have q259:x5_1<(l0.length:Int):=od_
 obtain ⟨ad259,A259_3,c259_3,e259,hx259_0,hx259_1,hx259_2,hx259_3,hl259_3,hi259_3⟩:=at_T50 HR0.out x5_1 p259 q259
 have hw259_3:=hx259_3
 have hw259_2:=hx259_2
 have hw259_1:=hx259_1
 have hw259_0:=hx259_0
 cases e259
 replace hx259_0:=cel_ HB hx259_0
 replace hx259_1:=cel_ HB hx259_1
 replace hx259_2:=cel_ HB hx259_2
 replace hx259_3:=cel_ HB hx259_3
 have HR259_3:=Aside0.mk hi259_3
 have HC259_3:=Aside0.mk hl259_3
 clear hi259_3 hl259_3
 replace p259:=eq_true p259
 replace q259:=eq_true q259
 have p260:0≤(x5_1:Int):=od_
 have q260:x5_1<(l1.length:Int):=od_
 obtain ⟨ad260,A260_3,c260_3,e260,hx260_0,hx260_1,hx260_2,hx260_3,hl260_3,hi260_3⟩:=at_T50 HR1.out x5_1 p260 q260
 have hw260_3:=hx260_3
 have hw260_2:=hx260_2
 have hw260_1:=hx260_1
 have hw260_0:=hx260_0
 cases e260
 replace hx260_0:=cel_ HB hx260_0
 replace hx260_1:=cel_ HB hx260_1
 replace hx260_2:=cel_ HB hx260_2
 replace hx260_3:=cel_ HB hx260_3
 have HR260_3:=Aside0.mk hi260_3
 have HC260_3:=Aside0.mk hl260_3
 clear hi260_3 hl260_3
 replace p260:=eq_true p260
 replace q260:=eq_true q260
 refine start_ (n:=10) (S:=fun w'=>w'.cell? (ad259.add ((x5_1).toNat * 4))=some (.string ((rd_T50 l0 x5_1).f0))∧w'.cell? ⟨(ad259.add ((x5_1).toNat * 4)).block,(ad259.add ((x5_1).toNat * 4)).off+1,none⟩=some (.int .u8 ((rd_T50 l0 x5_1).f1.f0))∧w'.cell? ⟨(ad259.add ((x5_1).toNat * 4)).block,(ad259.add ((x5_1).toNat * 4)).off+2,none⟩=some (.int .u8 ((rd_T50 l0 x5_1).f1.f1))∧w'.cell? ⟨(ad259.add ((x5_1).toNat * 4)).block,(ad259.add ((x5_1).toNat * 4)).off+3,none⟩=some (.slice A259_3 ((rd_T50 l0 x5_1).f2).length c259_3)∧w'.cell? (ad260.add ((x5_1).toNat * 4))=some (.string ((rd_T50 l1 x5_1).f0))∧w'.cell? ⟨(ad260.add ((x5_1).toNat * 4)).block,(ad260.add ((x5_1).toNat * 4)).off+1,none⟩=some (.int .u8 ((rd_T50 l1 x5_1).f1.f0))∧w'.cell? ⟨(ad260.add ((x5_1).toNat * 4)).block,(ad260.add ((x5_1).toNat * 4)).off+2,none⟩=some (.int .u8 ((rd_T50 l1 x5_1).f1.f1))∧w'.cell? ⟨(ad260.add ((x5_1).toNat * 4)).block,(ad260.add ((x5_1).toNat * 4)).off+3,none⟩=some (.slice A260_3 ((rd_T50 l1 x5_1).f2).length c260_3)) (ds:=[]) #[false,false,false,false,false,false,false,false,false,false] (by kernel_rfl) rfl rfl ⟨(cel_ HB hw259_0),(cel_ HB hw259_1),(cel_ HB hw259_2),(cel_ HB hw259_3),(cel_ HB hw260_0),(cel_ HB hw260_1),(cel_ HB hw260_2),(cel_ HB hw260_3)⟩ (fun hHeld=> ?_);refine with_tabW bookplateref12_SameFields.tab6 bookplateref12_SameFields.bits6 (fun HT_ HW_=> ?_)
 generalize wr.drew=w11 at HB HR259_3 HR260_3 hx259_0 hx259_1 hx259_2 hx259_3 hx260_0 hx260_1 hx260_2 hx260_3 hHeld⊢
 refine pA_ (i:=0) (N:=some 17) HT_ ?_
 refine pA_ (i:=1) (N:=some 18) HT_ ?_
 refine pA_ (i:=2) (N:=some 19) HT_ ?_
 refine pA_ (i:=4) (N:=some 21) HT_ ?_
 refine pA_ (i:=5) (N:=some 22) HT_ ?_
 refine pA_ (i:=6) (N:=some 23) HT_ ?_
 refine tA_ (i:=3) (N:=some 20) HT_ HW_ hHeld ?_
 refine tA_ (i:=7) (N:=some 24) HT_ HW_ hHeld ?_
 refine one_ (i:=8) (N:=some 25) #[true,true,true,true,true,true,true,true,true,false] rfl rfl (one_of HT_.out (by kernel_rfl)) (by decide) (fun K hK=> ?_)
 refine goes_ Tryd.func40 (by kernel_rfl) rfl #[.agg #[.string ((rd_T50 l0 x5_1).f0),.int .u8 ((rd_T50 l0 x5_1).f1.f0),.int .u8 ((rd_T50 l0 x5_1).f1.f1),.slice A259_3 ((rd_T50 l0 x5_1).f2).length c259_3],.agg #[.string ((rd_T50 l1 x5_1).f0),.int .u8 ((rd_T50 l1 x5_1).f1.f0),.int .u8 ((rd_T50 l1 x5_1).f1.f1),.slice A260_3 ((rd_T50 l1 x5_1).f2).length c260_3]] (by rfl) rfl rfl ml_ ?_
 with_reducible refine (bookplateref12_SameField.calls k1 ((rd_T50 l0 x5_1).f0) ((rd_T50 l0 x5_1).f1.f0) ((rd_T50 l0 x5_1).f1.f1) _ _ ((rd_T50 l0 x5_1).f2) ((rd_T50 l1 x5_1).f0) ((rd_T50 l1 x5_1).f1.f0) ((rd_T50 l1 x5_1).f1.f1) _ _ ((rd_T50 l1 x5_1).f2) false _ ?side1 ?side2 ?side3 ?side4 A7.out).mono ?_
 (case side1=>exact c0_)
 (case side2=>exact HC259_3.out)
 (case side3=>exact c0_)
 (case side4=>exact HC260_3.out)
 rintro e w12 ⟨rfl,hb⟩
 refine ⟨_,rfl,?_⟩
 have n0_:=Aside0.mk (below_step b0_ hb)
 clear HB
 have HB:=n0_
 clear n0_
 (try clear hb)
 refine hK.out _ _ ⟨(cel_ HB hw259_0),(cel_ HB hw259_1),(cel_ HB hw259_2),(cel_ HB hw259_3),(cel_ HB hw260_0),(cel_ HB hw260_1),(cel_ HB hw260_2),(cel_ HB hw260_3)⟩ (fun hHeld=> ?_)
 clear hK K
 refine norm_ (a':=?_) ?_ ?_
 rotate_left
 {
 show Act.put _ (some 25) _=_
 simp only [Act.put,List.setIfInBounds_toArray,List.set_cons_zero,List.set_cons_succ,i64_w,i32_w]
 rfl
 }
 refine pA_ (i:=9) (N:=some 26) HT_ ?_
 refine done_ (done_of HT_.out (by kernel_rfl)) ?_
 try go_wp2
 go_ret
 exact ⟨r1_,b0_⟩
 }
 }
 {
 rw [if_neg c6] at H
 exact absurd H (by simp)
 }
 }
 {
 rw [if_neg c5] at H
 exact absurd H (by simp)
 }
 }
 {
 rw [if_neg c4] at H
 have c4b0:decide (x5_1<(l0.length:Int))=false:=decide_eq_false c4
 clear c4
 obtain rfl:=Option.some.inj H
 go_wp2
 go_ret
 exact ⟨r1_,b0_⟩
 }
  )
  )
 }
 {
 rw [if_neg c3] at H
 have c3b0:((l0.length:Int)==(l1.length:Int))=false:=beq_eq_false_iff_ne.mpr c3
 have c3b1:((l0.length:Int) !=(l1.length:Int))=true:=bne_iff_ne.mpr c3
 have c3b2:(l0.length==l1.length)=false:=by first|simpa using c3|(simp at c3⊢;omega)
 obtain rfl:=Option.some.inj H
 go_enter Tryd.func26,Tryd.ntmps26
 go_wp2
 go_ret
 exact ⟨r1_,b0_⟩
 }
end
end Go.Proofs.YtdlolaognnbhpaaDoor.Pr
