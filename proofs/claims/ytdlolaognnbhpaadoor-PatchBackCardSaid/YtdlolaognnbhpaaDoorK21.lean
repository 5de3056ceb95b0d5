/- A part of the proof of laws of this seat: PatchBack, PatchDiff, PatchLeast, PatchMetric. Conditions: none of our own. -/
import Derived.Test.YtdlolaognnbhpaaDoorK13
import Derived.Test.YtdlolaognnbhpaaDoorK17
import Derived.Test.YtdlolaognnbhpaaDoorK20
namespace Go.Proofs.YtdlolaognnbhpaaDoor.Pr
open Go.RowKit Go.Proofs.YtdlolaognnbhpaaDoorW.PrintWords Go.Proofs.YtdlolaognnbhpaaDoorW.PrintLast Go.Proofs.YtdlolaognnbhpaaDoorW.PrintMore
noncomputable section
attribute [local go_sem] max2_int min2_int max_two min_two max_three min_three max_four min_four
set_option linter.unusedVariables false
set_option linter.unusedSimpArgs false
def bookplateref18_Diff.j0:Nat→Bool→Int→List (S50)→Int→List (S50)→Option ((List (S60))×Int)
 |0,_,_,_,_,_=>none
 |k+1,x13,x403000,x403001,x404000,x404001=>if x13=true then (some (([]:List (S60)),1)) else (if x403000=x404000 then ((bookplateref18_Edits.f k x403001 x404001).bind fun t406=>(some (t406,0))) else (some (([]:List (S60)),13)))
def bookplateref18_Diff.f (k:Nat) (a0_0:Int) (l0_1:List (S50)) (a1_0:Int) (l1_1:List (S50)):Option ((List (S60))×Int):=(bookplateref12_Valid.f k a0_0 l0_1).bind fun t404=>(if t404=true then ((bookplateref12_Valid.f k a1_0 l1_1).bind fun t405=>(bookplateref18_Diff.j0 k (!t405) a0_0 l0_1 a1_0 l1_1)) else (bookplateref18_Diff.j0 k true a0_0 l0_1 a1_0 l1_1))
set_option maxHeartbeats 8000000 in
set_option maxRecDepth 100000 in
theorem bookplateref18_Diff.calls (k:Nat) (a0_0:Int) (A0_1:Option Addr) (c0_1:Nat) (l0_1:List (S50)) (a1_0:Int) (A1_1:Option Addr) (c1_1:Nat) (l1_1:List (S50)) (r1:List (S60)) (r2:Int) (w:World) (hr0_1:Kd.C k50 w A0_1 l0_1.length l0_1) (hc0_1:l0_1.length≤c0_1) (hr1_1:Kd.C k50 w A1_1 l1_1.length l1_1) (hc1_1:l1_1.length≤c1_1) (h:bookplateref18_Diff.f k a0_0 l0_1 a1_0 l1_1=some (r1,r2)):
 Calls Tryd.prog 10 #[.agg #[.int .i64 a0_0,.slice A0_1 l0_1.length c0_1],.agg #[.int .i64 a1_0,.slice A1_1 l1_1.length c1_1]] w fun e w'=>∃ v0_:Value,e= .returned (.tuple #[v0_,.int .i64 r2])∧Kd.R k60 60 w' w.heap.size (fun _=>True) v0_ r1∧Below w.heap.size w w':=by
 have hu24:=Tryd.underlying24
 have HR0_1:=Aside0.mk hr0_1
 have HC0_1:=Aside0.mk hc0_1
 clear hr0_1 hc0_1
 have HR1_1:=Aside0.mk hr1_1
 have HC1_1:=Aside0.mk hc1_1
 clear hr1_1 hc1_1
 have HB:=Aside0.mk (Below.refl w.heap.size w)
 have H:((bookplateref12_Valid.f k a0_0 l0_1).bind fun t404=>(if t404=true then ((bookplateref12_Valid.f k a1_0 l1_1).bind fun t405=>(bookplateref18_Diff.j0 k (!t405) a0_0 l0_1 a1_0 l1_1)) else (bookplateref18_Diff.j0 k true a0_0 l0_1 a1_0 l1_1)))=some (r1,r2):=h
 clear h
 have HC3:=Aside0.mk H
 clear H
 go_enter Tryd.func10,Tryd.ntmps10
 go_upto_region 1 with (first|((with_reducible refine gate_dst (N:=2) rfl ?_);refine bx_ (N:=2) (cs:=#[.int .i64 a0_0,.slice A0_1 l0_1.length c0_1]) (t:=24) ?_;intro gb402 hg w4 hbox hb;have n_:=as4_ (below_step b0_ hb) (hbox) ((g0_ hg b0_:w.heap.size≤gb402)) ((g0_ hg b0_:w.heap.size≤gb402));clear HB;obtain ⟨HB,BK402,GW402,GE402⟩:=n_;clear hb hbox hg)|((with_reducible refine gate_dst (N:=3) rfl ?_);refine bx_ (N:=3) (cs:=#[.int .i64 a1_0,.slice A1_1 l1_1.length c1_1]) (t:=24) ?_;intro gb403 hg w5 hbox hb;have n_:=as7_ (bb_ BK402 hb) (below_step b0_ hb) (hbox) ((g0_ hg b0_:w.heap.size≤gb403)) ((g0_ hg b0_:w.heap.size≤gb403)) ((g1_ hg k0_:gb402≠gb403)) ((g2_ hg k0_:gb403≠gb402));clear BK402 HB;obtain ⟨BK402,HB,BK403,GW403,GE403,NB402_403,NB403_402⟩:=n_;clear hb hbox hg))
 (try simp only [Act.put,List.setIfInBounds_toArray,List.set_cons_zero,List.set_cons_succ])
 go_cut [13] (fun v13 wc=>∃ (kq:Nat) (x13_2:Bool),v13= .bool x13_2∧Aside0 (bookplateref18_Diff.j0 kq x13_2 a0_0 l0_1 a1_0 l1_1=some (r1,r2))∧Aside0 (kq≤k)∧Aside0 (wc.heap[gb402]?=some (.cells #[.int .i64 a0_0,(.slice A0_1 l0_1.length c0_1)] 24 (0,0)))∧Aside0 (wc.heap[gb403]?=some (.cells #[.int .i64 a1_0,(.slice A1_1 l1_1.length c1_1)] 24 (0,0)))∧Aside0 (Below w.heap.size w wc))
 case first=>
  (
 have H:=HC3.out
 clear HC3
 obtain ⟨t404,A6,H⟩:=ob_ H
 by_cases c7:t404=true
 {
 subst c7
 replace H:=tp_ H
 obtain ⟨t405,A8,H⟩:=ob_ H
 have H':=Aside0.mk H
 clear H
 have hnb9:=NB402_403.out
 have hnc9:=NB403_402.out
 have hcz10_0:w5.cell? ⟨gb402,0,none⟩=some (.int .i64 a0_0):=(blk_cell BK402.out 0).trans rfl;have hcz10_1:w5.cell? ⟨gb402,1,none⟩=some (.slice A0_1 l0_1.length c0_1):=(blk_cell BK402.out 1).trans rfl
 have hfz10_0:=blk_frozen BK402.out 0
 have hfz10_1:=blk_frozen BK402.out 1
 go_wp2_with (first|((with_reducible refine gate_callee (f:=17) rfl ?_);refine gl_ (some 7) Tryd.func17 #[.agg #[.int .i64 a0_0,.slice A0_1 l0_1.length c0_1]] ?_;(with_reducible refine (bookplateref12_Valid.calls k a0_0 _ _ l0_1 true _ ?side1 ?side2 A6.out).mono ?_);(case side1=>exact c0_);(case side2=>exact HC0_1.out);rintro e w11 ⟨rfl,hb⟩;refine ⟨_,rfl,?_⟩;have n_:=as3_ (bb_ BK402 hb) (bb_ BK403 hb) (below_step b0_ hb);clear BK402 BK403 HB;obtain ⟨BK402,BK403,HB⟩:=n_;(try clear hb);obtain ⟨hcz12_0,hcz12_1,hfz12_0,hfz12_1⟩:=ce2_ BK403)|(go_at_call 17;(with_reducible refine (bookplateref12_Valid.calls k a1_0 _ _ l1_1 t405 _ ?side1 ?side2 A8.out).mono ?_);(case side1=>exact c0_);(case side2=>exact HC1_1.out);rintro e w13 ⟨rfl,hb⟩;have n_:=as3_ (bb_ BK402 hb) (bb_ BK403 hb) (below_step b0_ hb);clear BK402 BK403 HB;obtain ⟨BK402,BK403,HB⟩:=n_;(try clear hb)))
 go_meet
 case rel=>exact ⟨_,(!t405),r0_,H',⟨by first|omega|exact Nat.le_refl _⟩,⟨k0_⟩,⟨k0_⟩,⟨b0_⟩⟩
 }
 {
 replace c7:=Bool.eq_false_iff.mpr c7
 subst c7
 replace H:=fn_ H
 have H':=Aside0.mk H
 clear H
 have hnb14:=NB402_403.out
 have hnc14:=NB403_402.out
 have hcz15_0:w5.cell? ⟨gb402,0,none⟩=some (.int .i64 a0_0):=(blk_cell BK402.out 0).trans rfl;have hcz15_1:w5.cell? ⟨gb402,1,none⟩=some (.slice A0_1 l0_1.length c0_1):=(blk_cell BK402.out 1).trans rfl
 have hfz15_0:=blk_frozen BK402.out 0
 have hfz15_1:=blk_frozen BK402.out 1
 go_wp2_with (first|((with_reducible refine gate_callee (f:=17) rfl ?_);refine gl_ (some 7) Tryd.func17 #[.agg #[.int .i64 a0_0,.slice A0_1 l0_1.length c0_1]] ?_;(with_reducible refine (bookplateref12_Valid.calls k a0_0 _ _ l0_1 false _ ?side1 ?side2 A6.out).mono ?_);(case side1=>exact c0_);(case side2=>exact HC0_1.out);rintro e w16 ⟨rfl,hb⟩;refine ⟨_,rfl,?_⟩;have n_:=as3_ (bb_ BK402 hb) (bb_ BK403 hb) (below_step b0_ hb);clear BK402 BK403 HB;obtain ⟨BK402,BK403,HB⟩:=n_;(try clear hb)))
 go_meet
 case rel=>exact ⟨_,(true),r0_,H',⟨by first|omega|exact Nat.le_refl _⟩,⟨k0_⟩,⟨k0_⟩,⟨b0_⟩⟩
 }
  )
 case rest=>
  (
 clear HC3
 try clear c1
 try clear p2
 try clear c7
 try clear c9
 try clear c10
 try clear c14
 try clear hcz10_0
 try clear hcz10_1
 try clear hcz12_0
 try clear hcz12_1
 try clear hcz15_0
 try clear hcz15_1
 try clear hfz10_0
 try clear hfz10_1
 try clear hfz12_0
 try clear hfz12_1
 try clear hfz15_0
 try clear hfz15_1
 obtain ⟨kq,x13_2,rfl,HA,HJ2,BK402,BK403,HB⟩:=hcut
 cases kq with
 |zero=>exact absurd HA.out (by simp [bookplateref18_Diff.j0])
 |succ kj2=>
  (
 have H:=HA.out
 clear HA
 simp only [bookplateref18_Diff.j0] at H
 by_cases c17:x13_2=true
 {
 subst c17
 replace H:=tp_ H
 simp only [Option.some.injEq,Prod.mk.injEq] at H
 obtain ⟨rfl,rfl⟩:=H
 go_wp2
 go_ret2
 exact ⟨_,r1_,by first|exact Kd.R_nil _ _ _ _ _|exact Kd.N_nil _ _ _ _ _|exact Kd.V_nil _ _ _ _ _|exact Kd.Q_nil _ _ _ _ _|exact Kd.S_nil _ _ _ _ _,b0_⟩
 }
 {
 replace c17:=Bool.eq_false_iff.mpr c17
 subst c17
 replace H:=fn_ H
 by_cases c18:a0_0=a1_0
 {
 rw [if_pos c18] at H
 have c18b0:(a0_0==a1_0)=true:=beq_iff_eq.mpr c18
 have c18b1:(a0_0 !=a1_0)=false:=bne_eq_false_iff_eq.mpr c18
 clear c18
 obtain ⟨t406,A19,H⟩:=ob_ H
 simp only [Option.some.injEq,Prod.mk.injEq] at H
 obtain ⟨rfl,rfl⟩:=H
 have hnb20:=NB402_403.out
 have hnc20:=NB403_402.out
 have hcz21_0:wc.cell? ⟨gb402,0,none⟩=some (.int .i64 a0_0):=(blk_cell BK402.out 0).trans rfl;have hcz21_1:wc.cell? ⟨gb402,1,none⟩=some (.slice A0_1 l0_1.length c0_1):=(blk_cell BK402.out 1).trans rfl
 have hfz21_0:=blk_frozen BK402.out 0
 have hfz21_1:=blk_frozen BK402.out 1;have hcz22_0:wc.cell? ⟨gb403,0,none⟩=some (.int .i64 a1_0):=(blk_cell BK403.out 0).trans rfl;have hcz22_1:wc.cell? ⟨gb403,1,none⟩=some (.slice A1_1 l1_1.length c1_1):=(blk_cell BK403.out 1).trans rfl
 have hfz22_0:=blk_frozen BK403.out 0
 have hfz22_1:=blk_frozen BK403.out 1
 go_wp2_with (first|((with_reducible refine gate_callee (f:=25) rfl ?_);refine gl_ (some 23) Tryd.func25 #[.slice A0_1 l0_1.length c0_1,.slice A1_1 l1_1.length c1_1] ?_;(with_reducible refine (bookplateref18_Edits.calls kj2 _ _ l0_1 _ _ l1_1 t406 _ ?side1 ?side2 ?side3 ?side4 A19.out).mono ?_);(case side1=>exact c0_);(case side2=>exact HC0_1.out);(case side3=>exact c0_);(case side4=>exact HC1_1.out);rintro e w23 ⟨v407,rfl,ho0,hb⟩;refine ⟨_,rfl,?_⟩;have n_:=as4_ (Kd.R_lower ho0 (below_size b0_)) (bb_ BK402 hb) (bb_ BK403 hb) (below_step b0_ hb);clear BK402 BK403 HB;obtain ⟨HO408,BK402,BK403,HB⟩:=n_;(try clear hb);(try clear ho0)))
 go_ret2
 exact ⟨_,r1_,by (with_reducible repeat (first|apply Kd.R_alloc|apply Kd.R_drewN|apply Kd.R_drew));exact HO408.out,b0_⟩
 }
 {
 rw [if_neg c18] at H
 have c18b0:(a0_0==a1_0)=false:=beq_eq_false_iff_ne.mpr c18
 have c18b1:(a0_0 !=a1_0)=true:=bne_iff_ne.mpr c18
 simp only [Option.some.injEq,Prod.mk.injEq] at H
 obtain ⟨rfl,rfl⟩:=H
 have hnb24:=NB402_403.out
 have hnc24:=NB403_402.out
 have hcz25_0:wc.cell? ⟨gb402,0,none⟩=some (.int .i64 a0_0):=(blk_cell BK402.out 0).trans rfl;have hcz25_1:wc.cell? ⟨gb402,1,none⟩=some (.slice A0_1 l0_1.length c0_1):=(blk_cell BK402.out 1).trans rfl
 have hfz25_0:=blk_frozen BK402.out 0
 have hfz25_1:=blk_frozen BK402.out 1;have hcz26_0:wc.cell? ⟨gb403,0,none⟩=some (.int .i64 a1_0):=(blk_cell BK403.out 0).trans rfl;have hcz26_1:wc.cell? ⟨gb403,1,none⟩=some (.slice A1_1 l1_1.length c1_1):=(blk_cell BK403.out 1).trans rfl
 have hfz26_0:=blk_frozen BK403.out 0
 have hfz26_1:=blk_frozen BK403.out 1
 go_wp2
 go_ret2
 exact ⟨_,r1_,by first|exact Kd.R_nil _ _ _ _ _|exact Kd.N_nil _ _ _ _ _|exact Kd.V_nil _ _ _ _ _|exact Kd.Q_nil _ _ _ _ _|exact Kd.S_nil _ _ _ _ _,b0_⟩
 }
 }
  )
  )
end
end Go.Proofs.YtdlolaognnbhpaaDoor.Pr
namespace Go.Proofs.YtdlolaognnbhpaaDoor.Pr
open Go.RowKit Go.Proofs.YtdlolaognnbhpaaDoorW.PrintWords Go.Proofs.YtdlolaognnbhpaaDoorW.PrintLast Go.Proofs.YtdlolaognnbhpaaDoorW.PrintMore
noncomputable section
attribute [local go_sem] max2_int min2_int max_two min_two max_three min_three max_four min_four
set_option linter.unusedVariables false
set_option linter.unusedSimpArgs false
def bookplateref18_Same.l0:Nat→List (S60)→List (S60)→Int→Option (Bool)
 |0,_,_,_=>none
 |k+1,x0,x1,x5=>if x5<(x0.length:Int) then (if 0≤x5 then (if x5<(x1.length:Int) then (if ((rd_T60 x0 x5).f0)=((rd_T60 x1 x5).f0) then ((bookplateref12_SameFields.f k ((rd_T60 x0 x5).f1) ((rd_T60 x1 x5).f1)).bind fun t413=>(if t413=true then ((bookplateref12_SameFields.f k ((rd_T60 x0 x5).f2) ((rd_T60 x1 x5).f2)).bind fun t416=>(if t416=true then (bookplateref18_Same.l0 k x0 x1 (wrap64 (x5+1))) else (some false))) else (some false))) else (some false)) else (none)) else (none)) else (some true)
def bookplateref18_Same.f (k:Nat) (l0:List (S60)) (l1:List (S60)):Option (Bool):=if (l0.length:Int)=(l1.length:Int) then (bookplateref18_Same.l0 k l0 l1 0) else (some false)
def bookplateref18_Same.T6:Bool×List (List Nat×List Nat):=(true,[([],[]),([],[]),([0,1],[0,1]),([2],[2]),([3],[3]),([],[]),([],[]),([5,6],[5,6]),([7],[7]),([8],[8]),([4,9],[4,9]),([10],[10]),([11],[11]),([11],[11]),([12,13,11],[11,12,13]),([14,11],[11,14]),([15,11],[11,15]),([11],[11]),([11],[11]),([17,18,11],[11,17,18]),([19,11],[11,19]),([20,11],[11,20]),([16,21,11,11],[11,16,21]),([22,11],[11,22]),([11,23],[11,23]),([24,22],[24]),([25],[25]),([25],[25]),([26,27,25],[25,26,27]),([28,25],[25,28]),([29,25],[25,29]),([25],[25]),([25],[25]),([31,32,25],[25,31,32]),([33,25],[25,33]),([34,25],[25,34]),([30,35,25,25],[25,30,35]),([36,25],[25,36]),([25,37],[25,37])])
def bookplateref18_Same.B6:List Nat:=[0,0,3,7,15,0,0,96,224,480,1023,2047,4095,4095,16383,32767,65535,4095,4095,397311,921599,1970175,4194303,8388607,16777215,33554431,67108863,67108863,268435455,536870911,1073741823,67108863,67108863,6509559807,15099494399,32279363583,68719476735,137438953471,274877906943]
theorem bookplateref18_Same.tab6:rtab .any (opsOf Tryd.f11 6)=bookplateref18_Same.T6:=by kernel_rfl
theorem bookplateref18_Same.bits6:waitsOk bookplateref18_Same.T6.2 bookplateref18_Same.B6=true:=by kernel_rfl
set_option maxHeartbeats 8000000 in
set_option maxRecDepth 100000 in
theorem bookplateref18_Same.calls (k:Nat) (A0:Option Addr) (c0:Nat) (l0:List (S60)) (A1:Option Addr) (c1:Nat) (l1:List (S60)) (r:Bool) (w:World) (hr0:Kd.C k60 w A0 l0.length l0) (hc0:l0.length≤c0) (hr1:Kd.C k60 w A1 l1.length l1) (hc1:l1.length≤c1) (h:bookplateref18_Same.f k l0 l1=some r):
 Calls Tryd.prog 11 #[.slice A0 l0.length c0,.slice A1 l1.length c1] w fun e w'=>e= .returned (.bool r)∧Below w.heap.size w w':=by
 have HR0:=Aside0.mk hr0
 have HC0:=Aside0.mk hc0
 clear hr0 hc0
 have HR1:=Aside0.mk hr1
 have HC1:=Aside0.mk hc1
 clear hr1 hc1
 have HB:=Aside0.mk (Below.refl w.heap.size w)
 have H:(if (l0.length:Int)=(l1.length:Int) then (bookplateref18_Same.l0 k l0 l1 0) else (some false))=some r:=h
 clear h
 by_cases c3:(l0.length:Int)=(l1.length:Int)
 {
 rw [if_pos c3] at H
 have c3b0:((l0.length:Int)==(l1.length:Int))=true:=beq_iff_eq.mpr c3
 have c3b1:((l0.length:Int) !=(l1.length:Int))=false:=bne_eq_false_iff_eq.mpr c3
 have c3b2:(l0.length==l1.length)=true:=by first|simpa using c3|(simp at c3⊢;omega)
 clear c3
 have H':=Aside0.mk H
 clear H
 go_enter Tryd.func11,Tryd.ntmps11
 go_wp2
 go_loopg [5] k (fun kq v5 w'=>∃ (x5_1:Int),v5= .int .i64 x5_1∧Aside0 (bookplateref18_Same.l0 kq l0 l1 x5_1=some r)∧Aside0 (kq≤k)∧Aside0 (Below w.heap.size w w'))
 case atStart=>exact ⟨(0),r0_,H',⟨Nat.le_refl _⟩,⟨b0_⟩⟩
 case round=>
  (
 clear H'
 try clear c1
 try clear p2
 try clear c3
 try clear c3b0
 try clear c3b1
 try clear c3b2
 obtain ⟨x5_1,rfl,HA,HK1,HB⟩:=hrel
 cases gk with
 |zero=>exact absurd HA.out (by simp [bookplateref18_Same.l0])
 |succ k1=>
  (
 have H:=HA.out
 clear HA
 simp only [bookplateref18_Same.l0] at H
 by_cases c4:x5_1<(l0.length:Int)
 {
 rw [if_pos c4] at H
 have c4b0:decide (x5_1<(l0.length:Int))=true:=decide_eq_true c4
 clear c4
 by_cases c5:0≤x5_1
 {
 rw [if_pos c5] at H
 have c5b0:decide (0≤x5_1)=true:=decide_eq_true c5
 clear c5
 by_cases c6:x5_1<(l1.length:Int)
 {
 rw [if_pos c6] at H
 have c6b0:decide (x5_1<(l1.length:Int))=true:=decide_eq_true c6
 clear c6
 by_cases c7:((rd_T60 l0 x5_1).f0)=((rd_T60 l1 x5_1).f0)
 {
 rw [if_pos c7] at H
 have c7b0:(((rd_T60 l0 x5_1).f0)==((rd_T60 l1 x5_1).f0))=true:=beq_iff_eq.mpr c7
 have c7b1:(((rd_T60 l0 x5_1).f0) !=((rd_T60 l1 x5_1).f0))=false:=bne_eq_false_iff_eq.mpr c7
 clear c7
 obtain ⟨t413,A8,H⟩:=ob_ H
 by_cases c9:t413=true
 {
 subst c9
 replace H:=tp_ H
 obtain ⟨t416,A10,H⟩:=ob_ H
 by_cases c11:t416=true
 {
 subst c11
 replace H:=tp_ H
 have H':=Aside0.mk H
 clear H
 try go_wp2
 have n0_:=Aside0.mk (below_drew1 HB.out)
 clear HB
 have HB:=n0_
 clear n0_
 have p409:0≤(x5_1:Int):=od_
 have q409:x5_1<(l0.length:Int):=od_
 obtain ⟨ad409,A409_1,c409_1,A409_2,c409_2,e409,hx409_0,hx409_1,hx409_2,hl409_1,hi409_1,hl409_2,hi409_2⟩:=at_T60 HR0.out x5_1 p409 q409
 have hw409_2:=hx409_2
 have hw409_1:=hx409_1
 have hw409_0:=hx409_0
 cases e409
 replace hx409_0:=cel_ HB hx409_0
 replace hx409_1:=cel_ HB hx409_1
 replace hx409_2:=cel_ HB hx409_2
 have HR409_1:=Aside0.mk hi409_1
 have HC409_1:=Aside0.mk hl409_1
 clear hi409_1 hl409_1
 have HR409_2:=Aside0.mk hi409_2
 have HC409_2:=Aside0.mk hl409_2
 clear hi409_2 hl409_2
 replace p409:=eq_true p409
 replace q409:=eq_true q409
 have p410:0≤(x5_1:Int):=od_
 have q410:x5_1<(l1.length:Int):=od_
 obtain ⟨ad410,A410_1,c410_1,A410_2,c410_2,e410,hx410_0,hx410_1,hx410_2,hl410_1,hi410_1,hl410_2,hi410_2⟩:=at_T60 HR1.out x5_1 p410 q410
 have hw410_2:=hx410_2
 have hw410_1:=hx410_1
 have hw410_0:=hx410_0
 cases e410
 replace hx410_0:=cel_ HB hx410_0
 replace hx410_1:=cel_ HB hx410_1
 replace hx410_2:=cel_ HB hx410_2
 have HR410_1:=Aside0.mk hi410_1
 have HC410_1:=Aside0.mk hl410_1
 clear hi410_1 hl410_1
 have HR410_2:=Aside0.mk hi410_2
 have HC410_2:=Aside0.mk hl410_2
 clear hi410_2 hl410_2
 replace p410:=eq_true p410
 replace q410:=eq_true q410
 have p411:0≤(x5_1:Int):=od_
 have q411:x5_1<(l0.length:Int):=od_
 obtain ⟨ad411,A411_1,c411_1,A411_2,c411_2,e411,hx411_0,hx411_1,hx411_2,hl411_1,hi411_1,hl411_2,hi411_2⟩:=at_T60 HR0.out x5_1 p411 q411
 have hw411_2:=hx411_2
 have hw411_1:=hx411_1
 have hw411_0:=hx411_0
 obtain rfl:ad409=ad411:=(by injection e411)
 replace hx411_0:=cel_ HB hx411_0
 replace hx411_1:=cel_ HB hx411_1
 replace hx411_2:=cel_ HB hx411_2
 have HR411_1:=Aside0.mk hi411_1
 have HC411_1:=Aside0.mk hl411_1
 clear hi411_1 hl411_1
 have HR411_2:=Aside0.mk hi411_2
 have HC411_2:=Aside0.mk hl411_2
 clear hi411_2 hl411_2
 replace p411:=eq_true p411
 replace q411:=eq_true q411
 have ea_:=Option.some.inj (hx409_1.symm.trans hx411_1)
 injection ea_ with ea_ en_ ec_
 subst ea_
 subst ec_
 clear en_
 have ea_:=Option.some.inj (hx409_2.symm.trans hx411_2)
 injection ea_ with ea_ en_ ec_
 subst ea_
 subst ec_
 clear en_
 have p412:0≤(x5_1:Int):=od_
 have q412:x5_1<(l1.length:Int):=od_
 obtain ⟨ad412,A412_1,c412_1,A412_2,c412_2,e412,hx412_0,hx412_1,hx412_2,hl412_1,hi412_1,hl412_2,hi412_2⟩:=at_T60 HR1.out x5_1 p412 q412
 have hw412_2:=hx412_2
 have hw412_1:=hx412_1
 have hw412_0:=hx412_0
 obtain rfl:ad410=ad412:=(by injection e412)
 replace hx412_0:=cel_ HB hx412_0
 replace hx412_1:=cel_ HB hx412_1
 replace hx412_2:=cel_ HB hx412_2
 have HR412_1:=Aside0.mk hi412_1
 have HC412_1:=Aside0.mk hl412_1
 clear hi412_1 hl412_1
 have HR412_2:=Aside0.mk hi412_2
 have HC412_2:=Aside0.mk hl412_2
 clear hi412_2 hl412_2
 replace p412:=eq_true p412
 replace q412:=eq_true q412
 have ea_:=Option.some.inj (hx410_1.symm.trans hx412_1)
 injection ea_ with ea_ en_ ec_
 subst ea_
 subst ec_
 clear en_
 have ea_:=Option.some.inj (hx410_2.symm.trans hx412_2)
 injection ea_ with ea_ en_ ec_
 subst ea_
 subst ec_
 clear en_
 have p414:0≤(x5_1:Int):=od_
 have q414:x5_1<(l0.length:Int):=od_
 obtain ⟨ad414,A414_1,c414_1,A414_2,c414_2,e414,hx414_0,hx414_1,hx414_2,hl414_1,hi414_1,hl414_2,hi414_2⟩:=at_T60 HR0.out x5_1 p414 q414
 have hw414_2:=hx414_2
 have hw414_1:=hx414_1
 have hw414_0:=hx414_0
 obtain rfl:ad409=ad414:=(by injection e414)
 replace hx414_0:=cel_ HB hx414_0
 replace hx414_1:=cel_ HB hx414_1
 replace hx414_2:=cel_ HB hx414_2
 have HR414_1:=Aside0.mk hi414_1
 have HC414_1:=Aside0.mk hl414_1
 clear hi414_1 hl414_1
 have HR414_2:=Aside0.mk hi414_2
 have HC414_2:=Aside0.mk hl414_2
 clear hi414_2 hl414_2
 replace p414:=eq_true p414
 replace q414:=eq_true q414
 have ea_:=Option.some.inj (hw409_1.symm.trans hw414_1)
 injection ea_ with ea_ en_ ec_
 have EA414_1:=Aside0.mk ea_
 have EC414_1:=Aside0.mk ec_
 clear en_ ea_ ec_
 have ea_:=Option.some.inj (hw409_2.symm.trans hw414_2)
 injection ea_ with ea_ en_ ec_
 have EA414_2:=Aside0.mk ea_
 have EC414_2:=Aside0.mk ec_
 clear en_ ea_ ec_
 have p415:0≤(x5_1:Int):=od_
 have q415:x5_1<(l1.length:Int):=od_
 obtain ⟨ad415,A415_1,c415_1,A415_2,c415_2,e415,hx415_0,hx415_1,hx415_2,hl415_1,hi415_1,hl415_2,hi415_2⟩:=at_T60 HR1.out x5_1 p415 q415
 have hw415_2:=hx415_2
 have hw415_1:=hx415_1
 have hw415_0:=hx415_0
 obtain rfl:ad410=ad415:=(by injection e415)
 replace hx415_0:=cel_ HB hx415_0
 replace hx415_1:=cel_ HB hx415_1
 replace hx415_2:=cel_ HB hx415_2
 have HR415_1:=Aside0.mk hi415_1
 have HC415_1:=Aside0.mk hl415_1
 clear hi415_1 hl415_1
 have HR415_2:=Aside0.mk hi415_2
 have HC415_2:=Aside0.mk hl415_2
 clear hi415_2 hl415_2
 replace p415:=eq_true p415
 replace q415:=eq_true q415
 have ea_:=Option.some.inj (hw410_1.symm.trans hw415_1)
 injection ea_ with ea_ en_ ec_
 have EA415_1:=Aside0.mk ea_
 have EC415_1:=Aside0.mk ec_
 clear en_ ea_ ec_
 have ea_:=Option.some.inj (hw410_2.symm.trans hw415_2)
 injection ea_ with ea_ en_ ec_
 have EA415_2:=Aside0.mk ea_
 have EC415_2:=Aside0.mk ec_
 clear en_ ea_ ec_
 refine start_ (n:=39) (S:=fun w'=>w'.cell? (ad409.add ((x5_1).toNat * 3))=some (.int .i64 ((rd_T60 l0 x5_1).f0))∧w'.cell? ⟨(ad409.add ((x5_1).toNat * 3)).block,(ad409.add ((x5_1).toNat * 3)).off+1,none⟩=some (.slice A409_1 ((rd_T60 l0 x5_1).f1).length c409_1)∧w'.cell? ⟨(ad409.add ((x5_1).toNat * 3)).block,(ad409.add ((x5_1).toNat * 3)).off+2,none⟩=some (.slice A409_2 ((rd_T60 l0 x5_1).f2).length c409_2)∧w'.cell? (ad410.add ((x5_1).toNat * 3))=some (.int .i64 ((rd_T60 l1 x5_1).f0))∧w'.cell? ⟨(ad410.add ((x5_1).toNat * 3)).block,(ad410.add ((x5_1).toNat * 3)).off+1,none⟩=some (.slice A410_1 ((rd_T60 l1 x5_1).f1).length c410_1)∧w'.cell? ⟨(ad410.add ((x5_1).toNat * 3)).block,(ad410.add ((x5_1).toNat * 3)).off+2,none⟩=some (.slice A410_2 ((rd_T60 l1 x5_1).f2).length c410_2)∧w'.cell? (ad409.add ((x5_1).toNat * 3))=some (.int .i64 ((rd_T60 l0 x5_1).f0))∧w'.cell? ⟨(ad409.add ((x5_1).toNat * 3)).block,(ad409.add ((x5_1).toNat * 3)).off+1,none⟩=some (.slice A409_1 ((rd_T60 l0 x5_1).f1).length c409_1)∧w'.cell? ⟨(ad409.add ((x5_1).toNat * 3)).block,(ad409.add ((x5_1).toNat * 3)).off+2,none⟩=some (.slice A409_2 ((rd_T60 l0 x5_1).f2).length c409_2)∧w'.cell? (ad410.add ((x5_1).toNat * 3))=some (.int .i64 ((rd_T60 l1 x5_1).f0))∧w'.cell? ⟨(ad410.add ((x5_1).toNat * 3)).block,(ad410.add ((x5_1).toNat * 3)).off+1,none⟩=some (.slice A410_1 ((rd_T60 l1 x5_1).f1).length c410_1)∧w'.cell? ⟨(ad410.add ((x5_1).toNat * 3)).block,(ad410.add ((x5_1).toNat * 3)).off+2,none⟩=some (.slice A410_2 ((rd_T60 l1 x5_1).f2).length c410_2)∧w'.cell? (ad409.add ((x5_1).toNat * 3))=some (.int .i64 ((rd_T60 l0 x5_1).f0))∧w'.cell? ⟨(ad409.add ((x5_1).toNat * 3)).block,(ad409.add ((x5_1).toNat * 3)).off+1,none⟩=some (.slice A414_1 ((rd_T60 l0 x5_1).f1).length c414_1)∧w'.cell? ⟨(ad409.add ((x5_1).toNat * 3)).block,(ad409.add ((x5_1).toNat * 3)).off+2,none⟩=some (.slice A414_2 ((rd_T60 l0 x5_1).f2).length c414_2)∧w'.cell? (ad410.add ((x5_1).toNat * 3))=some (.int .i64 ((rd_T60 l1 x5_1).f0))∧w'.cell? ⟨(ad410.add ((x5_1).toNat * 3)).block,(ad410.add ((x5_1).toNat * 3)).off+1,none⟩=some (.slice A415_1 ((rd_T60 l1 x5_1).f1).length c415_1)∧w'.cell? ⟨(ad410.add ((x5_1).toNat * 3)).block,(ad410.add ((x5_1).toNat * 3)).off+2,none⟩=some (.slice A415_2 ((rd_T60 l1 x5_1).f2).length c415_2)) (ds:=[]) #[false,false,false,false,false,false,false,false,false,false,false,false,false,false,false,false,false,false,false,false,false,false,false,false,false,false,false,false,false,false,false,false,false,false,false,false,false,false,false] (by kernel_rfl) rfl rfl ⟨(cel_ HB hw409_0),(cel_ HB hw409_1),(cel_ HB hw409_2),(cel_ HB hw410_0),(cel_ HB hw410_1),(cel_ HB hw410_2),(cel_ HB hw411_0),(cel_ HB hw411_1),(cel_ HB hw411_2),(cel_ HB hw412_0),(cel_ HB hw412_1),(cel_ HB hw412_2),(cel_ HB hw414_0),(cel_ HB hw414_1),(cel_ HB hw414_2),(cel_ HB hw415_0),(cel_ HB hw415_1),(cel_ HB hw415_2)⟩ (fun hHeld=> ?_);refine with_tabW bookplateref18_Same.tab6 bookplateref18_Same.bits6 (fun HT_ HW_=> ?_)
 generalize wr.drew=w12 at HB HR409_1 HR409_2 HR410_1 HR410_2 HR411_1 HR411_2 HR412_1 HR412_2 HR414_1 HR414_2 HR415_1 HR415_2 hx409_0 hx409_1 hx409_2 hx410_0 hx410_1 hx410_2 hx411_0 hx411_1 hx411_2 hx412_0 hx412_1 hx412_2 hx414_0 hx414_1 hx414_2 hx415_0 hx415_1 hx415_2 hHeld⊢
 refine pA_ (i:=0) (N:=some 17) HT_ ?_
 refine pA_ (i:=1) (N:=some 18) HT_ ?_
 refine pA_ (i:=2) (N:=some 19) HT_ ?_
 refine pA_ (i:=3) (N:=some 20) HT_ ?_
 refine pA_ (i:=5) (N:=some 22) HT_ ?_
 refine pA_ (i:=6) (N:=some 23) HT_ ?_
 refine pA_ (i:=7) (N:=some 24) HT_ ?_
 refine pA_ (i:=8) (N:=some 25) HT_ ?_
 refine tA_ (i:=4) (N:=some 21) HT_ HW_ hHeld ?_
 refine tA_ (i:=9) (N:=some 26) HT_ HW_ hHeld ?_
 refine pA_ (i:=10) (N:=some 27) HT_ ?_
 refine pA_ (i:=11) (N:=some 28) HT_ ?_
 refine pA_ (i:=12) (N:=some 29) HT_ ?_
 refine pA_ (i:=13) (N:=some 30) HT_ ?_
 refine pA_ (i:=14) (N:=some 31) HT_ ?_
 refine pA_ (i:=15) (N:=some 32) HT_ ?_
 refine pA_ (i:=17) (N:=some 34) HT_ ?_
 refine pA_ (i:=18) (N:=some 35) HT_ ?_
 refine pA_ (i:=19) (N:=some 36) HT_ ?_
 refine pA_ (i:=20) (N:=some 37) HT_ ?_
 refine tA_ (i:=16) (N:=some 33) HT_ HW_ hHeld ?_
 refine tA_ (i:=21) (N:=some 38) HT_ HW_ hHeld ?_
 refine one_ (i:=22) (N:=some 39) #[true,true,true,true,true,true,true,true,true,true,true,true,true,true,true,true,true,true,true,true,true,true,true,false,false,false,false,false,false,false,false,false,false,false,false,false,false,false,false] rfl rfl (one_of HT_.out (by kernel_rfl)) (by decide) (fun K hK=> ?_)
 refine goes_ Tryd.func26 (by kernel_rfl) rfl #[.slice A409_1 ((rd_T60 l0 x5_1).f1).length c409_1,.slice A410_1 ((rd_T60 l1 x5_1).f1).length c410_1] (by rfl) rfl rfl (by (try simp only [List.map_toArray,List.map_cons,List.map_nil]);first|done|rfl|((try rw [←EA414_1.out]);(try rw [←EC414_1.out]);(try rw [←EA414_2.out]);(try rw [←EC414_2.out]);(try rw [←EA415_1.out]);(try rw [←EC415_1.out]);(try rw [←EA415_2.out]);(try rw [←EC415_2.out]);(try rw [←EA414_1.out]);(try rw [←EC414_1.out]);(try rw [←EA414_2.out]);(try rw [←EC414_2.out]);(try rw [←EA415_1.out]);(try rw [←EC415_1.out]);(try rw [←EA415_2.out]);(try rw [←EC415_2.out]);rfl)|(simp only [List.length_drop,List.length_take];rfl)) ?_
 with_reducible refine (bookplateref12_SameFields.calls k1 _ _ ((rd_T60 l0 x5_1).f1) _ _ ((rd_T60 l1 x5_1).f1) true _ ?side1 ?side2 ?side3 ?side4 A8.out).mono ?_
 (case side1=>exact c0_)
 (case side2=>exact HC411_1.out)
 (case side3=>exact c0_)
 (case side4=>exact HC412_1.out)
 rintro e w13 ⟨rfl,hb⟩
 refine ⟨_,rfl,?_⟩
 have n0_:=Aside0.mk (below_step b0_ hb)
 clear HB
 have HB:=n0_
 clear n0_
 (try clear hb)
 refine hK.out _ _ ⟨(cel_ HB hw409_0),(cel_ HB hw409_1),(cel_ HB hw409_2),(cel_ HB hw410_0),(cel_ HB hw410_1),(cel_ HB hw410_2),(cel_ HB hw411_0),(cel_ HB hw411_1),(cel_ HB hw411_2),(cel_ HB hw412_0),(cel_ HB hw412_1),(cel_ HB hw412_2),(cel_ HB hw414_0),(cel_ HB hw414_1),(cel_ HB hw414_2),(cel_ HB hw415_0),(cel_ HB hw415_1),(cel_ HB hw415_2)⟩ (fun hHeld=> ?_)
 clear hK K
 refine norm_ (a':=?_) ?_ ?_
 rotate_left
 {
 show Act.put _ (some 39) _=_
 simp only [Act.put,List.setIfInBounds_toArray,List.set_cons_zero,List.set_cons_succ,i64_w,i32_w]
 rfl
 }
 refine pA_ (i:=23) (N:=some 40) HT_ ?_
 refine pA_ (i:=24) (N:=some 41) HT_ ?_
 refine pA_ (i:=25) (N:=some 42) HT_ ?_
 refine pA_ (i:=26) (N:=some 43) HT_ ?_
 refine pA_ (i:=27) (N:=some 44) HT_ ?_
 refine pA_ (i:=28) (N:=some 45) HT_ ?_
 refine pA_ (i:=29) (N:=some 46) HT_ ?_
 refine pA_ (i:=31) (N:=some 48) HT_ ?_
 refine pA_ (i:=32) (N:=some 49) HT_ ?_
 refine pA_ (i:=33) (N:=some 50) HT_ ?_
 refine pA_ (i:=34) (N:=some 51) HT_ ?_
 refine tA_ (i:=30) (N:=some 47) HT_ HW_ hHeld ?_
 refine tA_ (i:=35) (N:=some 52) HT_ HW_ hHeld ?_
 refine one_ (i:=36) (N:=some 53) #[true,true,true,true,true,true,true,true,true,true,true,true,true,true,true,true,true,true,true,true,true,true,true,true,true,true,true,true,true,true,true,true,true,true,true,true,true,false,false] rfl rfl (one_of HT_.out (by kernel_rfl)) (by decide) (fun K hK=> ?_)
 refine goes_ Tryd.func26 (by kernel_rfl) rfl #[.slice A414_2 ((rd_T60 l0 x5_1).f2).length c414_2,.slice A415_2 ((rd_T60 l1 x5_1).f2).length c415_2] (by rfl) rfl rfl (by (try simp only [List.map_toArray,List.map_cons,List.map_nil]);first|done|rfl|((try rw [←EA414_1.out]);(try rw [←EC414_1.out]);(try rw [←EA414_2.out]);(try rw [←EC414_2.out]);(try rw [←EA415_1.out]);(try rw [←EC415_1.out]);(try rw [←EA415_2.out]);(try rw [←EC415_2.out]);(try rw [←EA414_1.out]);(try rw [←EC414_1.out]);(try rw [←EA414_2.out]);(try rw [←EC414_2.out]);(try rw [←EA415_1.out]);(try rw [←EC415_1.out]);(try rw [←EA415_2.out]);(try rw [←EC415_2.out]);rfl)|(simp only [List.length_drop,List.length_take];rfl)) ?_
 with_reducible refine (bookplateref12_SameFields.calls k1 _ _ ((rd_T60 l0 x5_1).f2) _ _ ((rd_T60 l1 x5_1).f2) true _ ?side1 ?side2 ?side3 ?side4 A10.out).mono ?_
 (case side1=>exact c0_)
 (case side2=>exact HC414_2.out)
 (case side3=>exact c0_)
 (case side4=>exact HC415_2.out)
 rintro e w14 ⟨rfl,hb⟩
 refine ⟨_,rfl,?_⟩
 have n0_:=Aside0.mk (below_step b0_ hb)
 clear HB
 have HB:=n0_
 clear n0_
 (try clear hb)
 refine hK.out _ _ ⟨(cel_ HB hw409_0),(cel_ HB hw409_1),(cel_ HB hw409_2),(cel_ HB hw410_0),(cel_ HB hw410_1),(cel_ HB hw410_2),(cel_ HB hw411_0),(cel_ HB hw411_1),(cel_ HB hw411_2),(cel_ HB hw412_0),(cel_ HB hw412_1),(cel_ HB hw412_2),(cel_ HB hw414_0),(cel_ HB hw414_1),(cel_ HB hw414_2),(cel_ HB hw415_0),(cel_ HB hw415_1),(cel_ HB hw415_2)⟩ (fun hHeld=> ?_)
 clear hK K
 refine norm_ (a':=?_) ?_ ?_
 rotate_left
 {
 show Act.put _ (some 53) _=_
 simp only [Act.put,List.setIfInBounds_toArray,List.set_cons_zero,List.set_cons_succ,i64_w,i32_w]
 rfl
 }
 refine pA_ (i:=37) (N:=some 54) HT_ ?_
 refine pA_ (i:=38) (N:=some 55) HT_ ?_
 refine done_ (done_of HT_.out (by kernel_rfl)) ?_
 try go_wp2
 go_roundg k1
 case measure=>have:=HK1.out;omega
 case rel=>exact ⟨(wrap64 (x5_1+1)),r0_,H',⟨by have:=HK1.out;omega⟩,⟨b0_⟩⟩
 }
 {
 replace c11:=Bool.eq_false_iff.mpr c11
 subst c11
 replace H:=fn_ H
 obtain rfl:=Option.some.inj H
 try go_wp2
 have n0_:=Aside0.mk (below_drew1 HB.out)
 clear HB
 have HB:=n0_
 clear n0_
 have p409:0≤(x5_1:Int):=od_
 have q409:x5_1<(l0.length:Int):=od_
 obtain ⟨ad409,A409_1,c409_1,A409_2,c409_2,e409,hx409_0,hx409_1,hx409_2,hl409_1,hi409_1,hl409_2,hi409_2⟩:=at_T60 HR0.out x5_1 p409 q409
 have hw409_2:=hx409_2
 have hw409_1:=hx409_1
 have hw409_0:=hx409_0
 cases e409
 replace hx409_0:=cel_ HB hx409_0
 replace hx409_1:=cel_ HB hx409_1
 replace hx409_2:=cel_ HB hx409_2
 have HR409_1:=Aside0.mk hi409_1
 have HC409_1:=Aside0.mk hl409_1
 clear hi409_1 hl409_1
 have HR409_2:=Aside0.mk hi409_2
 have HC409_2:=Aside0.mk hl409_2
 clear hi409_2 hl409_2
 replace p409:=eq_true p409
 replace q409:=eq_true q409
 have p410:0≤(x5_1:Int):=od_
 have q410:x5_1<(l1.length:Int):=od_
 obtain ⟨ad410,A410_1,c410_1,A410_2,c410_2,e410,hx410_0,hx410_1,hx410_2,hl410_1,hi410_1,hl410_2,hi410_2⟩:=at_T60 HR1.out x5_1 p410 q410
 have hw410_2:=hx410_2
 have hw410_1:=hx410_1
 have hw410_0:=hx410_0
 cases e410
 replace hx410_0:=cel_ HB hx410_0
 replace hx410_1:=cel_ HB hx410_1
 replace hx410_2:=cel_ HB hx410_2
 have HR410_1:=Aside0.mk hi410_1
 have HC410_1:=Aside0.mk hl410_1
 clear hi410_1 hl410_1
 have HR410_2:=Aside0.mk hi410_2
 have HC410_2:=Aside0.mk hl410_2
 clear hi410_2 hl410_2
 replace p410:=eq_true p410
 replace q410:=eq_true q410
 have p411:0≤(x5_1:Int):=od_
 have q411:x5_1<(l0.length:Int):=od_
 obtain ⟨ad411,A411_1,c411_1,A411_2,c411_2,e411,hx411_0,hx411_1,hx411_2,hl411_1,hi411_1,hl411_2,hi411_2⟩:=at_T60 HR0.out x5_1 p411 q411
 have hw411_2:=hx411_2
 have hw411_1:=hx411_1
 have hw411_0:=hx411_0
 obtain rfl:ad409=ad411:=(by injection e411)
 replace hx411_0:=cel_ HB hx411_0
 replace hx411_1:=cel_ HB hx411_1
 replace hx411_2:=cel_ HB hx411_2
 have HR411_1:=Aside0.mk hi411_1
 have HC411_1:=Aside0.mk hl411_1
 clear hi411_1 hl411_1
 have HR411_2:=Aside0.mk hi411_2
 have HC411_2:=Aside0.mk hl411_2
 clear hi411_2 hl411_2
 replace p411:=eq_true p411
 replace q411:=eq_true q411
 have ea_:=Option.some.inj (hx409_1.symm.trans hx411_1)
 injection ea_ with ea_ en_ ec_
 subst ea_
 subst ec_
 clear en_
 have ea_:=Option.some.inj (hx409_2.symm.trans hx411_2)
 injection ea_ with ea_ en_ ec_
 subst ea_
 subst ec_
 clear en_
 have p412:0≤(x5_1:Int):=od_
 have q412:x5_1<(l1.length:Int):=od_
 obtain ⟨ad412,A412_1,c412_1,A412_2,c412_2,e412,hx412_0,hx412_1,hx412_2,hl412_1,hi412_1,hl412_2,hi412_2⟩:=at_T60 HR1.out x5_1 p412 q412
 have hw412_2:=hx412_2
 have hw412_1:=hx412_1
 have hw412_0:=hx412_0
 obtain rfl:ad410=ad412:=(by injection e412)
 replace hx412_0:=cel_ HB hx412_0
 replace hx412_1:=cel_ HB hx412_1
 replace hx412_2:=cel_ HB hx412_2
 have HR412_1:=Aside0.mk hi412_1
 have HC412_1:=Aside0.mk hl412_1
 clear hi412_1 hl412_1
 have HR412_2:=Aside0.mk hi412_2
 have HC412_2:=Aside0.mk hl412_2
 clear hi412_2 hl412_2
 replace p412:=eq_true p412
 replace q412:=eq_true q412
 have ea_:=Option.some.inj (hx410_1.symm.trans hx412_1)
 injection ea_ with ea_ en_ ec_
 subst ea_
 subst ec_
 clear en_
 have ea_:=Option.some.inj (hx410_2.symm.trans hx412_2)
 injection ea_ with ea_ en_ ec_
 subst ea_
 subst ec_
 clear en_
 have p414:0≤(x5_1:Int):=od_
 have q414:x5_1<(l0.length:Int):=od_
 obtain ⟨ad414,A414_1,c414_1,A414_2,c414_2,e414,hx414_0,hx414_1,hx414_2,hl414_1,hi414_1,hl414_2,hi414_2⟩:=at_T60 HR0.out x5_1 p414 q414
 have hw414_2:=hx414_2
 have hw414_1:=hx414_1
 have hw414_0:=hx414_0
 obtain rfl:ad409=ad414:=(by injection e414)
 replace hx414_0:=cel_ HB hx414_0
 replace hx414_1:=cel_ HB hx414_1
 replace hx414_2:=cel_ HB hx414_2
 have HR414_1:=Aside0.mk hi414_1
 have HC414_1:=Aside0.mk hl414_1
 clear hi414_1 hl414_1
 have HR414_2:=Aside0.mk hi414_2
 have HC414_2:=Aside0.mk hl414_2
 clear hi414_2 hl414_2
 replace p414:=eq_true p414
 replace q414:=eq_true q414
 have ea_:=Option.some.inj (hw409_1.symm.trans hw414_1)
 injection ea_ with ea_ en_ ec_
 have EA414_1:=Aside0.mk ea_
 have EC414_1:=Aside0.mk ec_
 clear en_ ea_ ec_
 have ea_:=Option.some.inj (hw409_2.symm.trans hw414_2)
 injection ea_ with ea_ en_ ec_
 have EA414_2:=Aside0.mk ea_
 have EC414_2:=Aside0.mk ec_
 clear en_ ea_ ec_
 have p415:0≤(x5_1:Int):=od_
 have q415:x5_1<(l1.length:Int):=od_
 obtain ⟨ad415,A415_1,c415_1,A415_2,c415_2,e415,hx415_0,hx415_1,hx415_2,hl415_1,hi415_1,hl415_2,hi415_2⟩:=at_T60 HR1.out x5_1 p415 q415
 have hw415_2:=hx415_2
 have hw415_1:=hx415_1
 have hw415_0:=hx415_0
 obtain rfl:ad410=ad415:=(by injection e415)
 replace hx415_0:=cel_ HB hx415_0
 replace hx415_1:=cel_ HB hx415_1
 replace hx415_2:=cel_ HB hx415_2
 have HR415_1:=Aside0.mk hi415_1
 have HC415_1:=Aside0.mk hl415_1
 clear hi415_1 hl415_1
 have HR415_2:=Aside0.mk hi415_2
 have HC415_2:=Aside0.mk hl415_2
 clear hi415_2 hl415_2
 replace p415:=eq_true p415
 replace q415:=eq_true q415
 have ea_:=Option.some.inj (hw410_1.symm.trans hw415_1)
 injection ea_ with ea_ en_ ec_
 have EA415_1:=Aside0.mk ea_
 have EC415_1:=Aside0.mk ec_
 clear en_ ea_ ec_
 have ea_:=Option.some.inj (hw410_2.symm.trans hw415_2)
 injection ea_ with ea_ en_ ec_
 have EA415_2:=Aside0.mk ea_
 have EC415_2:=Aside0.mk ec_
 clear en_ ea_ ec_
 refine start_ (n:=39) (S:=fun w'=>w'.cell? (ad409.add ((x5_1).toNat * 3))=some (.int .i64 ((rd_T60 l0 x5_1).f0))∧w'.cell? ⟨(ad409.add ((x5_1).toNat * 3)).block,(ad409.add ((x5_1).toNat * 3)).off+1,none⟩=some (.slice A409_1 ((rd_T60 l0 x5_1).f1).length c409_1)∧w'.cell? ⟨(ad409.add ((x5_1).toNat * 3)).block,(ad409.add ((x5_1).toNat * 3)).off+2,none⟩=some (.slice A409_2 ((rd_T60 l0 x5_1).f2).length c409_2)∧w'.cell? (ad410.add ((x5_1).toNat * 3))=some (.int .i64 ((rd_T60 l1 x5_1).f0))∧w'.cell? ⟨(ad410.add ((x5_1).toNat * 3)).block,(ad410.add ((x5_1).toNat * 3)).off+1,none⟩=some (.slice A410_1 ((rd_T60 l1 x5_1).f1).length c410_1)∧w'.cell? ⟨(ad410.add ((x5_1).toNat * 3)).block,(ad410.add ((x5_1).toNat * 3)).off+2,none⟩=some (.slice A410_2 ((rd_T60 l1 x5_1).f2).length c410_2)∧w'.cell? (ad409.add ((x5_1).toNat * 3))=some (.int .i64 ((rd_T60 l0 x5_1).f0))∧w'.cell? ⟨(ad409.add ((x5_1).toNat * 3)).block,(ad409.add ((x5_1).toNat * 3)).off+1,none⟩=some (.slice A409_1 ((rd_T60 l0 x5_1).f1).length c409_1)∧w'.cell? ⟨(ad409.add ((x5_1).toNat * 3)).block,(ad409.add ((x5_1).toNat * 3)).off+2,none⟩=some (.slice A409_2 ((rd_T60 l0 x5_1).f2).length c409_2)∧w'.cell? (ad410.add ((x5_1).toNat * 3))=some (.int .i64 ((rd_T60 l1 x5_1).f0))∧w'.cell? ⟨(ad410.add ((x5_1).toNat * 3)).block,(ad410.add ((x5_1).toNat * 3)).off+1,none⟩=some (.slice A410_1 ((rd_T60 l1 x5_1).f1).length c410_1)∧w'.cell? ⟨(ad410.add ((x5_1).toNat * 3)).block,(ad410.add ((x5_1).toNat * 3)).off+2,none⟩=some (.slice A410_2 ((rd_T60 l1 x5_1).f2).length c410_2)∧w'.cell? (ad409.add ((x5_1).toNat * 3))=some (.int .i64 ((rd_T60 l0 x5_1).f0))∧w'.cell? ⟨(ad409.add ((x5_1).toNat * 3)).block,(ad409.add ((x5_1).toNat * 3)).off+1,none⟩=some (.slice A414_1 ((rd_T60 l0 x5_1).f1).length c414_1)∧w'.cell? ⟨(ad409.add ((x5_1).toNat * 3)).block,(ad409.add ((x5_1).toNat * 3)).off+2,none⟩=some (.slice A414_2 ((rd_T60 l0 x5_1).f2).length c414_2)∧w'.cell? (ad410.add ((x5_1).toNat * 3))=some (.int .i64 ((rd_T60 l1 x5_1).f0))∧w'.cell? ⟨(ad410.add ((x5_1).toNat * 3)).block,(ad410.add ((x5_1).toNat * 3)).off+1,none⟩=some (.slice A415_1 ((rd_T60 l1 x5_1).f1).length c415_1)∧w'.cell? ⟨(ad410.add ((x5_1).toNat * 3)).block,(ad410.add ((x5_1).toNat * 3)).off+2,none⟩=some (.slice A415_2 ((rd_T60 l1 x5_1).f2).length c415_2)) (ds:=[]) #[false,false,false,false,false,false,false,false,false,false,false,false,false,false,false,false,false,false,false,false,false,false,false,false,false,false,false,false,false,false,false,false,false,false,false,false,false,false,false] (by kernel_rfl) rfl rfl ⟨(cel_ HB hw409_0),(cel_ HB hw409_1),(cel_ HB hw409_2),(cel_ HB hw410_0),(cel_ HB hw410_1),(cel_ HB hw410_2),(cel_ HB hw411_0),(cel_ HB hw411_1),(cel_ HB hw411_2),(cel_ HB hw412_0),(cel_ HB hw412_1),(cel_ HB hw412_2),(cel_ HB hw414_0),(cel_ HB hw414_1),(cel_ HB hw414_2),(cel_ HB hw415_0),(cel_ HB hw415_1),(cel_ HB hw415_2)⟩ (fun hHeld=> ?_);refine with_tabW bookplateref18_Same.tab6 bookplateref18_Same.bits6 (fun HT_ HW_=> ?_)
 generalize wr.drew=w15 at HB HR409_1 HR409_2 HR410_1 HR410_2 HR411_1 HR411_2 HR412_1 HR412_2 HR414_1 HR414_2 HR415_1 HR415_2 hx409_0 hx409_1 hx409_2 hx410_0 hx410_1 hx410_2 hx411_0 hx411_1 hx411_2 hx412_0 hx412_1 hx412_2 hx414_0 hx414_1 hx414_2 hx415_0 hx415_1 hx415_2 hHeld⊢
 refine pA_ (i:=0) (N:=some 17) HT_ ?_
 refine pA_ (i:=1) (N:=some 18) HT_ ?_
 refine pA_ (i:=2) (N:=some 19) HT_ ?_
 refine pA_ (i:=3) (N:=some 20) HT_ ?_
 refine pA_ (i:=5) (N:=some 22) HT_ ?_
 refine pA_ (i:=6) (N:=some 23) HT_ ?_
 refine pA_ (i:=7) (N:=some 24) HT_ ?_
 refine pA_ (i:=8) (N:=some 25) HT_ ?_
 refine tA_ (i:=4) (N:=some 21) HT_ HW_ hHeld ?_
 refine tA_ (i:=9) (N:=some 26) HT_ HW_ hHeld ?_
 refine pA_ (i:=10) (N:=some 27) HT_ ?_
 refine pA_ (i:=11) (N:=some 28) HT_ ?_
 refine pA_ (i:=12) (N:=some 29) HT_ ?_
 refine pA_ (i:=13) (N:=some 30) HT_ ?_
 refine pA_ (i:=14) (N:=some 31) HT_ ?_
 refine pA_ (i:=15) (N:=some 32) HT_ ?_
 refine pA_ (i:=17) (N:=some 34) HT_ ?_
 refine pA_ (i:=18) (N:=some 35) HT_ ?_
 refine pA_ (i:=19) (N:=some 36) HT_ ?_
 refine pA_ (i:=20) (N:=some 37) HT_ ?_
 refine tA_ (i:=16) (N:=some 33) HT_ HW_ hHeld ?_
 refine tA_ (i:=21) (N:=some 38) HT_ HW_ hHeld ?_
 refine one_ (i:=22) (N:=some 39) #[true,true,true,true,true,true,true,true,true,true,true,true,true,true,true,true,true,true,true,true,true,true,true,false,false,false,false,false,false,false,false,false,false,false,false,false,false,false,false] rfl rfl (one_of HT_.out (by kernel_rfl)) (by decide) (fun K hK=> ?_)
 refine goes_ Tryd.func26 (by kernel_rfl) rfl #[.slice A409_1 ((rd_T60 l0 x5_1).f1).length c409_1,.slice A410_1 ((rd_T60 l1 x5_1).f1).length c410_1] (by rfl) rfl rfl (by (try simp only [List.map_toArray,List.map_cons,List.map_nil]);first|done|rfl|((try rw [←EA414_1.out]);(try rw [←EC414_1.out]);(try rw [←EA414_2.out]);(try rw [←EC414_2.out]);(try rw [←EA415_1.out]);(try rw [←EC415_1.out]);(try rw [←EA415_2.out]);(try rw [←EC415_2.out]);(try rw [←EA414_1.out]);(try rw [←EC414_1.out]);(try rw [←EA414_2.out]);(try rw [←EC414_2.out]);(try rw [←EA415_1.out]);(try rw [←EC415_1.out]);(try rw [←EA415_2.out]);(try rw [←EC415_2.out]);rfl)|(simp only [List.length_drop,List.length_take];rfl)) ?_
 with_reducible refine (bookplateref12_SameFields.calls k1 _ _ ((rd_T60 l0 x5_1).f1) _ _ ((rd_T60 l1 x5_1).f1) true _ ?side1 ?side2 ?side3 ?side4 A8.out).mono ?_
 (case side1=>exact c0_)
 (case side2=>exact HC411_1.out)
 (case side3=>exact c0_)
 (case side4=>exact HC412_1.out)
 rintro e w16 ⟨rfl,hb⟩
 refine ⟨_,rfl,?_⟩
 have n0_:=Aside0.mk (below_step b0_ hb)
 clear HB
 have HB:=n0_
 clear n0_
 (try clear hb)
 refine hK.out _ _ ⟨(cel_ HB hw409_0),(cel_ HB hw409_1),(cel_ HB hw409_2),(cel_ HB hw410_0),(cel_ HB hw410_1),(cel_ HB hw410_2),(cel_ HB hw411_0),(cel_ HB hw411_1),(cel_ HB hw411_2),(cel_ HB hw412_0),(cel_ HB hw412_1),(cel_ HB hw412_2),(cel_ HB hw414_0),(cel_ HB hw414_1),(cel_ HB hw414_2),(cel_ HB hw415_0),(cel_ HB hw415_1),(cel_ HB hw415_2)⟩ (fun hHeld=> ?_)
 clear hK K
 refine norm_ (a':=?_) ?_ ?_
 rotate_left
 {
 show Act.put _ (some 39) _=_
 simp only [Act.put,List.setIfInBounds_toArray,List.set_cons_zero,List.set_cons_succ,i64_w,i32_w]
 rfl
 }
 refine pA_ (i:=23) (N:=some 40) HT_ ?_
 refine pA_ (i:=24) (N:=some 41) HT_ ?_
 refine pA_ (i:=25) (N:=some 42) HT_ ?_
 refine pA_ (i:=26) (N:=some 43) HT_ ?_
 refine pA_ (i:=27) (N:=some 44) HT_ ?_
 refine pA_ (i:=28) (N:=some 45) HT_ ?_
 refine pA_ (i:=29) (N:=some 46) HT_ ?_
 refine pA_ (i:=31) (N:=some 48) HT_ ?_
 refine pA_ (i:=32) (N:=some 49) HT_ ?_
 refine pA_ (i:=33) (N:=some 50) HT_ ?_
 refine pA_ (i:=34) (N:=some 51) HT_ ?_
 refine tA_ (i:=30) (N:=some 47) HT_ HW_ hHeld ?_
 refine tA_ (i:=35) (N:=some 52) HT_ HW_ hHeld ?_
 refine one_ (i:=36) (N:=some 53) #[true,true,true,true,true,true,true,true,true,true,true,true,true,true,true,true,true,true,true,true,true,true,true,true,true,true,true,true,true,true,true,true,true,true,true,true,true,false,false] rfl rfl (one_of HT_.out (by kernel_rfl)) (by decide) (fun K hK=> ?_)
 refine goes_ Tryd.func26 (by kernel_rfl) rfl #[.slice A414_2 ((rd_T60 l0 x5_1).f2).length c414_2,.slice A415_2 ((rd_T60 l1 x5_1).f2).length c415_2] (by rfl) rfl rfl (by (try simp only [List.map_toArray,List.map_cons,List.map_nil]);first|done|rfl|((try rw [←EA414_1.out]);(try rw [←EC414_1.out]);(try rw [←EA414_2.out]);(try rw [←EC414_2.out]);(try rw [←EA415_1.out]);(try rw [←EC415_1.out]);(try rw [←EA415_2.out]);(try rw [←EC415_2.out]);(try rw [←EA414_1.out]);(try rw [←EC414_1.out]);(try rw [←EA414_2.out]);(try rw [←EC414_2.out]);(try rw [←EA415_1.out]);(try rw [←EC415_1.out]);(try rw [←EA415_2.out]);(try rw [←EC415_2.out]);rfl)|(simp only [List.length_drop,List.length_take];rfl)) ?_
 with_reducible refine (bookplateref12_SameFields.calls k1 _ _ ((rd_T60 l0 x5_1).f2) _ _ ((rd_T60 l1 x5_1).f2) false _ ?side1 ?side2 ?side3 ?side4 A10.out).mono ?_
 (case side1=>exact c0_)
 (case side2=>exact HC414_2.out)
 (case side3=>exact c0_)
 (case side4=>exact HC415_2.out)
 rintro e w17 ⟨rfl,hb⟩
 refine ⟨_,rfl,?_⟩
 have n0_:=Aside0.mk (below_step b0_ hb)
 clear HB
 have HB:=n0_
 clear n0_
 (try clear hb)
 refine hK.out _ _ ⟨(cel_ HB hw409_0),(cel_ HB hw409_1),(cel_ HB hw409_2),(cel_ HB hw410_0),(cel_ HB hw410_1),(cel_ HB hw410_2),(cel_ HB hw411_0),(cel_ HB hw411_1),(cel_ HB hw411_2),(cel_ HB hw412_0),(cel_ HB hw412_1),(cel_ HB hw412_2),(cel_ HB hw414_0),(cel_ HB hw414_1),(cel_ HB hw414_2),(cel_ HB hw415_0),(cel_ HB hw415_1),(cel_ HB hw415_2)⟩ (fun hHeld=> ?_)
 clear hK K
 refine norm_ (a':=?_) ?_ ?_
 rotate_left
 {
 show Act.put _ (some 53) _=_
 simp only [Act.put,List.setIfInBounds_toArray,List.set_cons_zero,List.set_cons_succ,i64_w,i32_w]
 rfl
 }
 refine pA_ (i:=37) (N:=some 54) HT_ ?_
 refine pA_ (i:=38) (N:=some 55) HT_ ?_
 refine done_ (done_of HT_.out (by kernel_rfl)) ?_
 try go_wp2
 go_ret
 exact ⟨r1_,b0_⟩
 }
 }
 {
 replace c9:=Bool.eq_false_iff.mpr c9
 subst c9
 replace H:=fn_ H
 obtain rfl:=Option.some.inj H
 try go_wp2
 have n0_:=Aside0.mk (below_drew1 HB.out)
 clear HB
 have HB:=n0_
 clear n0_
 have p409:0≤(x5_1:Int):=od_
 have q409:x5_1<(l0.length:Int):=od_
 obtain ⟨ad409,A409_1,c409_1,A409_2,c409_2,e409,hx409_0,hx409_1,hx409_2,hl409_1,hi409_1,hl409_2,hi409_2⟩:=at_T60 HR0.out x5_1 p409 q409
 have hw409_2:=hx409_2
 have hw409_1:=hx409_1
 have hw409_0:=hx409_0
 cases e409
 replace hx409_0:=cel_ HB hx409_0
 replace hx409_1:=cel_ HB hx409_1
 replace hx409_2:=cel_ HB hx409_2
 have HR409_1:=Aside0.mk hi409_1
 have HC409_1:=Aside0.mk hl409_1
 clear hi409_1 hl409_1
 have HR409_2:=Aside0.mk hi409_2
 have HC409_2:=Aside0.mk hl409_2
 clear hi409_2 hl409_2
 replace p409:=eq_true p409
 replace q409:=eq_true q409
 have p410:0≤(x5_1:Int):=od_
 have q410:x5_1<(l1.length:Int):=od_
 obtain ⟨ad410,A410_1,c410_1,A410_2,c410_2,e410,hx410_0,hx410_1,hx410_2,hl410_1,hi410_1,hl410_2,hi410_2⟩:=at_T60 HR1.out x5_1 p410 q410
 have hw410_2:=hx410_2
 have hw410_1:=hx410_1
 have hw410_0:=hx410_0
 cases e410
 replace hx410_0:=cel_ HB hx410_0
 replace hx410_1:=cel_ HB hx410_1
 replace hx410_2:=cel_ HB hx410_2
 have HR410_1:=Aside0.mk hi410_1
 have HC410_1:=Aside0.mk hl410_1
 clear hi410_1 hl410_1
 have HR410_2:=Aside0.mk hi410_2
 have HC410_2:=Aside0.mk hl410_2
 clear hi410_2 hl410_2
 replace p410:=eq_true p410
 replace q410:=eq_true q410
 have p411:0≤(x5_1:Int):=od_
 have q411:x5_1<(l0.length:Int):=od_
 obtain ⟨ad411,A411_1,c411_1,A411_2,c411_2,e411,hx411_0,hx411_1,hx411_2,hl411_1,hi411_1,hl411_2,hi411_2⟩:=at_T60 HR0.out x5_1 p411 q411
 have hw411_2:=hx411_2
 have hw411_1:=hx411_1
 have hw411_0:=hx411_0
 obtain rfl:ad409=ad411:=(by injection e411)
 replace hx411_0:=cel_ HB hx411_0
 replace hx411_1:=cel_ HB hx411_1
 replace hx411_2:=cel_ HB hx411_2
 have HR411_1:=Aside0.mk hi411_1
 have HC411_1:=Aside0.mk hl411_1
 clear hi411_1 hl411_1
 have HR411_2:=Aside0.mk hi411_2
 have HC411_2:=Aside0.mk hl411_2
 clear hi411_2 hl411_2
 replace p411:=eq_true p411
 replace q411:=eq_true q411
 have ea_:=Option.some.inj (hx409_1.symm.trans hx411_1)
 injection ea_ with ea_ en_ ec_
 subst ea_
 subst ec_
 clear en_
 have ea_:=Option.some.inj (hx409_2.symm.trans hx411_2)
 injection ea_ with ea_ en_ ec_
 subst ea_
 subst ec_
 clear en_
 have p412:0≤(x5_1:Int):=od_
 have q412:x5_1<(l1.length:Int):=od_
 obtain ⟨ad412,A412_1,c412_1,A412_2,c412_2,e412,hx412_0,hx412_1,hx412_2,hl412_1,hi412_1,hl412_2,hi412_2⟩:=at_T60 HR1.out x5_1 p412 q412
 have hw412_2:=hx412_2
 have hw412_1:=hx412_1
 have hw412_0:=hx412_0
 obtain rfl:ad410=ad412:=(by injection e412)
 replace hx412_0:=cel_ HB hx412_0
 replace hx412_1:=cel_ HB hx412_1
 replace hx412_2:=cel_ HB hx412_2
 have HR412_1:=Aside0.mk hi412_1
 have HC412_1:=Aside0.mk hl412_1
 clear hi412_1 hl412_1
 have HR412_2:=Aside0.mk hi412_2
 have HC412_2:=Aside0.mk hl412_2
 clear hi412_2 hl412_2
 replace p412:=eq_true p412
 replace q412:=eq_true q412
 have ea_:=Option.some.inj (hx410_1.symm.trans hx412_1)
 injection ea_ with ea_ en_ ec_
 subst ea_
 subst ec_
 clear en_
 have ea_:=Option.some.inj (hx410_2.symm.trans hx412_2)
 injection ea_ with ea_ en_ ec_
 subst ea_
 subst ec_
 clear en_
 refine start_ (n:=39) (S:=fun w'=>w'.cell? (ad409.add ((x5_1).toNat * 3))=some (.int .i64 ((rd_T60 l0 x5_1).f0))∧w'.cell? ⟨(ad409.add ((x5_1).toNat * 3)).block,(ad409.add ((x5_1).toNat * 3)).off+1,none⟩=some (.slice A409_1 ((rd_T60 l0 x5_1).f1).length c409_1)∧w'.cell? ⟨(ad409.add ((x5_1).toNat * 3)).block,(ad409.add ((x5_1).toNat * 3)).off+2,none⟩=some (.slice A409_2 ((rd_T60 l0 x5_1).f2).length c409_2)∧w'.cell? (ad410.add ((x5_1).toNat * 3))=some (.int .i64 ((rd_T60 l1 x5_1).f0))∧w'.cell? ⟨(ad410.add ((x5_1).toNat * 3)).block,(ad410.add ((x5_1).toNat * 3)).off+1,none⟩=some (.slice A410_1 ((rd_T60 l1 x5_1).f1).length c410_1)∧w'.cell? ⟨(ad410.add ((x5_1).toNat * 3)).block,(ad410.add ((x5_1).toNat * 3)).off+2,none⟩=some (.slice A410_2 ((rd_T60 l1 x5_1).f2).length c410_2)∧w'.cell? (ad409.add ((x5_1).toNat * 3))=some (.int .i64 ((rd_T60 l0 x5_1).f0))∧w'.cell? ⟨(ad409.add ((x5_1).toNat * 3)).block,(ad409.add ((x5_1).toNat * 3)).off+1,none⟩=some (.slice A409_1 ((rd_T60 l0 x5_1).f1).length c409_1)∧w'.cell? ⟨(ad409.add ((x5_1).toNat * 3)).block,(ad409.add ((x5_1).toNat * 3)).off+2,none⟩=some (.slice A409_2 ((rd_T60 l0 x5_1).f2).length c409_2)∧w'.cell? (ad410.add ((x5_1).toNat * 3))=some (.int .i64 ((rd_T60 l1 x5_1).f0))∧w'.cell? ⟨(ad410.add ((x5_1).toNat * 3)).block,(ad410.add ((x5_1).toNat * 3)).off+1,none⟩=some (.slice A410_1 ((rd_T60 l1 x5_1).f1).length c410_1)∧w'.cell? ⟨(ad410.add ((x5_1).toNat * 3)).block,(ad410.add ((x5_1).toNat * 3)).off+2,none⟩=some (.slice A410_2 ((rd_T60 l1 x5_1).f2).length c410_2)) (ds:=[]) #[false,false,false,false,false,false,false,false,false,false,false,false,false,false,false,false,false,false,false,false,false,false,false,false,false,false,false,false,false,false,false,false,false,false,false,false,false,false,false] (by kernel_rfl) rfl rfl ⟨(cel_ HB hw409_0),(cel_ HB hw409_1),(cel_ HB hw409_2),(cel_ HB hw410_0),(cel_ HB hw410_1),(cel_ HB hw410_2),(cel_ HB hw411_0),(cel_ HB hw411_1),(cel_ HB hw411_2),(cel_ HB hw412_0),(cel_ HB hw412_1),(cel_ HB hw412_2)⟩ (fun hHeld=> ?_);refine with_tabW bookplateref18_Same.tab6 bookplateref18_Same.bits6 (fun HT_ HW_=> ?_)
 generalize wr.drew=w18 at HB HR409_1 HR409_2 HR410_1 HR410_2 HR411_1 HR411_2 HR412_1 HR412_2 hx409_0 hx409_1 hx409_2 hx410_0 hx410_1 hx410_2 hx411_0 hx411_1 hx411_2 hx412_0 hx412_1 hx412_2 hHeld⊢
 refine pA_ (i:=0) (N:=some 17) HT_ ?_
 refine pA_ (i:=1) (N:=some 18) HT_ ?_
 refine pA_ (i:=2) (N:=some 19) HT_ ?_
 refine pA_ (i:=3) (N:=some 20) HT_ ?_
 refine pA_ (i:=5) (N:=some 22) HT_ ?_
 refine pA_ (i:=6) (N:=some 23) HT_ ?_
 refine pA_ (i:=7) (N:=some 24) HT_ ?_
 refine pA_ (i:=8) (N:=some 25) HT_ ?_
 refine tA_ (i:=4) (N:=some 21) HT_ HW_ hHeld ?_
 refine tA_ (i:=9) (N:=some 26) HT_ HW_ hHeld ?_
 refine pA_ (i:=10) (N:=some 27) HT_ ?_
 refine pA_ (i:=11) (N:=some 28) HT_ ?_
 refine pA_ (i:=12) (N:=some 29) HT_ ?_
 refine pA_ (i:=13) (N:=some 30) HT_ ?_
 refine pA_ (i:=14) (N:=some 31) HT_ ?_
 refine pA_ (i:=15) (N:=some 32) HT_ ?_
 refine pA_ (i:=17) (N:=some 34) HT_ ?_
 refine pA_ (i:=18) (N:=some 35) HT_ ?_
 refine pA_ (i:=19) (N:=some 36) HT_ ?_
 refine pA_ (i:=20) (N:=some 37) HT_ ?_
 refine tA_ (i:=16) (N:=some 33) HT_ HW_ hHeld ?_
 refine tA_ (i:=21) (N:=some 38) HT_ HW_ hHeld ?_
 refine one_ (i:=22) (N:=some 39) #[true,true,true,true,true,true,true,true,true,true,true,true,true,true,true,true,true,true,true,true,true,true,true,false,false,false,false,false,false,false,false,false,false,false,false,false,false,false,false] rfl rfl (one_of HT_.out (by kernel_rfl)) (by decide) (fun K hK=> ?_)
 refine goes_ Tryd.func26 (by kernel_rfl) rfl #[.slice A409_1 ((rd_T60 l0 x5_1).f1).length c409_1,.slice A410_1 ((rd_T60 l1 x5_1).f1).length c410_1] (by rfl) rfl rfl (by (try simp only [List.map_toArray,List.map_cons,List.map_nil]);first|done|rfl|((try rw [←EA414_1.out]);(try rw [←EC414_1.out]);(try rw [←EA414_2.out]);(try rw [←EC414_2.out]);(try rw [←EA415_1.out]);(try rw [←EC415_1.out]);(try rw [←EA415_2.out]);(try rw [←EC415_2.out]);(try rw [←EA414_1.out]);(try rw [←EC414_1.out]);(try rw [←EA414_2.out]);(try rw [←EC414_2.out]);(try rw [←EA415_1.out]);(try rw [←EC415_1.out]);(try rw [←EA415_2.out]);(try rw [←EC415_2.out]);rfl)|(simp only [List.length_drop,List.length_take];rfl)) ?_
 with_reducible refine (bookplateref12_SameFields.calls k1 _ _ ((rd_T60 l0 x5_1).f1) _ _ ((rd_T60 l1 x5_1).f1) false _ ?side1 ?side2 ?side3 ?side4 A8.out).mono ?_
 (case side1=>exact c0_)
 (case side2=>exact HC411_1.out)
 (case side3=>exact c0_)
 (case side4=>exact HC412_1.out)
 rintro e w19 ⟨rfl,hb⟩
 refine ⟨_,rfl,?_⟩
 have n0_:=Aside0.mk (below_step b0_ hb)
 clear HB
 have HB:=n0_
 clear n0_
 (try clear hb)
 refine hK.out _ _ ⟨(cel_ HB hw409_0),(cel_ HB hw409_1),(cel_ HB hw409_2),(cel_ HB hw410_0),(cel_ HB hw410_1),(cel_ HB hw410_2),(cel_ HB hw411_0),(cel_ HB hw411_1),(cel_ HB hw411_2),(cel_ HB hw412_0),(cel_ HB hw412_1),(cel_ HB hw412_2)⟩ (fun hHeld=> ?_)
 clear hK K
 refine norm_ (a':=?_) ?_ ?_
 rotate_left
 {
 show Act.put _ (some 39) _=_
 simp only [Act.put,List.setIfInBounds_toArray,List.set_cons_zero,List.set_cons_succ,i64_w,i32_w]
 rfl
 }
 refine pA_ (i:=23) (N:=some 40) HT_ ?_
 refine pA_ (i:=24) (N:=some 41) HT_ ?_
 refine pA_ (i:=25) (N:=some 42) HT_ ?_
 refine pU_ (i:=26) (N:=some 43) HT_ ?_
 refine pU_ (i:=27) (N:=some 44) HT_ ?_
 refine pU_ (i:=28) (N:=some 45) HT_ ?_
 refine pU_ (i:=29) (N:=some 46) HT_ ?_
 refine pU_ (i:=30) (N:=some 47) HT_ ?_
 refine pU_ (i:=31) (N:=some 48) HT_ ?_
 refine pU_ (i:=32) (N:=some 49) HT_ ?_
 refine pU_ (i:=33) (N:=some 50) HT_ ?_
 refine pU_ (i:=34) (N:=some 51) HT_ ?_
 refine pU_ (i:=35) (N:=some 52) HT_ ?_
 refine pU_ (i:=36) (N:=some 53) HT_ ?_
 refine pU_ (i:=37) (N:=some 54) HT_ ?_
 refine pA_ (i:=38) (N:=some 55) HT_ ?_
 refine done_ (done_of HT_.out (by kernel_rfl)) ?_
 try go_wp2
 go_ret
 exact ⟨r1_,b0_⟩
 }
 }
 {
 rw [if_neg c7] at H
 have c7b0:(((rd_T60 l0 x5_1).f0)==((rd_T60 l1 x5_1).f0))=false:=beq_eq_false_iff_ne.mpr c7
 have c7b1:(((rd_T60 l0 x5_1).f0) !=((rd_T60 l1 x5_1).f0))=true:=bne_iff_ne.mpr c7
 obtain rfl:=Option.some.inj H
 try go_wp2
 have n0_:=Aside0.mk (below_drew1 HB.out)
 clear HB
 have HB:=n0_
 clear n0_
 have p409:0≤(x5_1:Int):=od_
 have q409:x5_1<(l0.length:Int):=od_
 obtain ⟨ad409,A409_1,c409_1,A409_2,c409_2,e409,hx409_0,hx409_1,hx409_2,hl409_1,hi409_1,hl409_2,hi409_2⟩:=at_T60 HR0.out x5_1 p409 q409
 have hw409_2:=hx409_2
 have hw409_1:=hx409_1
 have hw409_0:=hx409_0
 cases e409
 replace hx409_0:=cel_ HB hx409_0
 replace hx409_1:=cel_ HB hx409_1
 replace hx409_2:=cel_ HB hx409_2
 have HR409_1:=Aside0.mk hi409_1
 have HC409_1:=Aside0.mk hl409_1
 clear hi409_1 hl409_1
 have HR409_2:=Aside0.mk hi409_2
 have HC409_2:=Aside0.mk hl409_2
 clear hi409_2 hl409_2
 replace p409:=eq_true p409
 replace q409:=eq_true q409
 have p410:0≤(x5_1:Int):=od_
 have q410:x5_1<(l1.length:Int):=od_
 obtain ⟨ad410,A410_1,c410_1,A410_2,c410_2,e410,hx410_0,hx410_1,hx410_2,hl410_1,hi410_1,hl410_2,hi410_2⟩:=at_T60 HR1.out x5_1 p410 q410
 have hw410_2:=hx410_2
 have hw410_1:=hx410_1
 have hw410_0:=hx410_0
 cases e410
 replace hx410_0:=cel_ HB hx410_0
 replace hx410_1:=cel_ HB hx410_1
 replace hx410_2:=cel_ HB hx410_2
 have HR410_1:=Aside0.mk hi410_1
 have HC410_1:=Aside0.mk hl410_1
 clear hi410_1 hl410_1
 have HR410_2:=Aside0.mk hi410_2
 have HC410_2:=Aside0.mk hl410_2
 clear hi410_2 hl410_2
 replace p410:=eq_true p410
 replace q410:=eq_true q410
 refine start_ (n:=39) (S:=fun w'=>w'.cell? (ad409.add ((x5_1).toNat * 3))=some (.int .i64 ((rd_T60 l0 x5_1).f0))∧w'.cell? ⟨(ad409.add ((x5_1).toNat * 3)).block,(ad409.add ((x5_1).toNat * 3)).off+1,none⟩=some (.slice A409_1 ((rd_T60 l0 x5_1).f1).length c409_1)∧w'.cell? ⟨(ad409.add ((x5_1).toNat * 3)).block,(ad409.add ((x5_1).toNat * 3)).off+2,none⟩=some (.slice A409_2 ((rd_T60 l0 x5_1).f2).length c409_2)∧w'.cell? (ad410.add ((x5_1).toNat * 3))=some (.int .i64 ((rd_T60 l1 x5_1).f0))∧w'.cell? ⟨(ad410.add ((x5_1).toNat * 3)).block,(ad410.add ((x5_1).toNat * 3)).off+1,none⟩=some (.slice A410_1 ((rd_T60 l1 x5_1).f1).length c410_1)∧w'.cell? ⟨(ad410.add ((x5_1).toNat * 3)).block,(ad410.add ((x5_1).toNat * 3)).off+2,none⟩=some (.slice A410_2 ((rd_T60 l1 x5_1).f2).length c410_2)) (ds:=[]) #[false,false,false,false,false,false,false,false,false,false,false,false,false,false,false,false,false,false,false,false,false,false,false,false,false,false,false,false,false,false,false,false,false,false,false,false,false,false,false] (by kernel_rfl) rfl rfl ⟨(cel_ HB hw409_0),(cel_ HB hw409_1),(cel_ HB hw409_2),(cel_ HB hw410_0),(cel_ HB hw410_1),(cel_ HB hw410_2)⟩ (fun hHeld=> ?_);refine with_tabW bookplateref18_Same.tab6 bookplateref18_Same.bits6 (fun HT_ HW_=> ?_)
 generalize wr.drew=w20 at HB HR409_1 HR409_2 HR410_1 HR410_2 hx409_0 hx409_1 hx409_2 hx410_0 hx410_1 hx410_2 hHeld⊢
 refine pA_ (i:=0) (N:=some 17) HT_ ?_
 refine pA_ (i:=1) (N:=some 18) HT_ ?_
 refine pA_ (i:=2) (N:=some 19) HT_ ?_
 refine pA_ (i:=3) (N:=some 20) HT_ ?_
 refine pA_ (i:=5) (N:=some 22) HT_ ?_
 refine pA_ (i:=6) (N:=some 23) HT_ ?_
 refine pA_ (i:=7) (N:=some 24) HT_ ?_
 refine pA_ (i:=8) (N:=some 25) HT_ ?_
 refine tA_ (i:=4) (N:=some 21) HT_ HW_ hHeld ?_
 refine tA_ (i:=9) (N:=some 26) HT_ HW_ hHeld ?_
 refine pA_ (i:=10) (N:=some 27) HT_ ?_
 refine pA_ (i:=11) (N:=some 28) HT_ ?_
 refine pU_ (i:=12) (N:=some 29) HT_ ?_
 refine pU_ (i:=13) (N:=some 30) HT_ ?_
 refine pU_ (i:=14) (N:=some 31) HT_ ?_
 refine pU_ (i:=15) (N:=some 32) HT_ ?_
 refine pU_ (i:=16) (N:=some 33) HT_ ?_
 refine pU_ (i:=17) (N:=some 34) HT_ ?_
 refine pU_ (i:=18) (N:=some 35) HT_ ?_
 refine pU_ (i:=19) (N:=some 36) HT_ ?_
 refine pU_ (i:=20) (N:=some 37) HT_ ?_
 refine pU_ (i:=21) (N:=some 38) HT_ ?_
 refine pU_ (i:=22) (N:=some 39) HT_ ?_
 refine pU_ (i:=23) (N:=some 40) HT_ ?_
 refine pA_ (i:=24) (N:=some 41) HT_ ?_
 refine pA_ (i:=25) (N:=some 42) HT_ ?_
 refine pU_ (i:=26) (N:=some 43) HT_ ?_
 refine pU_ (i:=27) (N:=some 44) HT_ ?_
 refine pU_ (i:=28) (N:=some 45) HT_ ?_
 refine pU_ (i:=29) (N:=some 46) HT_ ?_
 refine pU_ (i:=30) (N:=some 47) HT_ ?_
 refine pU_ (i:=31) (N:=some 48) HT_ ?_
 refine pU_ (i:=32) (N:=some 49) HT_ ?_
 refine pU_ (i:=33) (N:=some 50) HT_ ?_
 refine pU_ (i:=34) (N:=some 51) HT_ ?_
 refine pU_ (i:=35) (N:=some 52) HT_ ?_
 refine pU_ (i:=36) (N:=some 53) HT_ ?_
 refine pU_ (i:=37) (N:=some 54) HT_ ?_
 refine pA_ (i:=38) (N:=some 55) HT_ ?_
 refine done_ (done_of HT_.out (by kernel_rfl)) ?_
 try go_wp2
 go_ret
 exact ⟨r1_,b0_⟩
 }
 }
 {
 rw [if_neg c6] at H
 exact absurd H (by simp)
 }
 }
 {
 rw [if_neg c5] at H
 exact absurd H (by simp)
 }
 }
 {
 rw [if_neg c4] at H
 have c4b0:decide (x5_1<(l0.length:Int))=false:=decide_eq_false c4
 clear c4
 obtain rfl:=Option.some.inj H
 go_wp2
 go_ret
 exact ⟨r1_,b0_⟩
 }
  )
  )
 }
 {
 rw [if_neg c3] at H
 have c3b0:((l0.length:Int)==(l1.length:Int))=false:=beq_eq_false_iff_ne.mpr c3
 have c3b1:((l0.length:Int) !=(l1.length:Int))=true:=bne_iff_ne.mpr c3
 have c3b2:(l0.length==l1.length)=false:=by first|simpa using c3|(simp at c3⊢;omega)
 obtain rfl:=Option.some.inj H
 go_enter Tryd.func11,Tryd.ntmps11
 go_wp2
 go_ret
 exact ⟨r1_,b0_⟩
 }
end
end Go.Proofs.YtdlolaognnbhpaaDoor.Pr
