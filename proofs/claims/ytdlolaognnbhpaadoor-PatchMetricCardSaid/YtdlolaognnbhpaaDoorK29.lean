/- A part of the proof of laws of this seat: PatchMetric. Conditions: none of our own. -/
import Derived.Test.YtdlolaognnbhpaaDoorK14
import Derived.Test.YtdlolaognnbhpaaDoorK28
namespace Go.Proofs.YtdlolaognnbhpaaDoor.Pr
open Go.RowKit Go.Proofs.YtdlolaognnbhpaaDoorW.PrintWords Go.Proofs.YtdlolaognnbhpaaDoorW.PrintLast Go.Proofs.YtdlolaognnbhpaaDoorW.PrintMore
noncomputable section
attribute [local go_sem] max2_int min2_int max_two min_two max_three min_three max_four min_four
set_option linter.unusedVariables false
set_option linter.unusedSimpArgs false
def bookplatelaw18_PatchMetric.j0:Nat→Bool→Int→List (S50)→Int→List (S50)→Int→List (S50)→Option (Bool)
 |0,_,_,_,_,_,_,_=>none
 |k+1,x26,x478000,x478001,x479000,x479001,x480000,x480001=>if x26=true then (some true) else ((patch_Diff.f k x478000 x478001 x479000 x479001).bind fun bt483=>((patch_Diff.f k x479000 x479001 x480000 x480001).bind fun bt487=>((patch_Diff.f k x478000 x478001 x480000 x480001).bind fun bt491=>((patch_Diff.f k x479000 x479001 x478000 x478001).bind fun bt495=>(if bt495.2=0 then ((patch_Size.f k bt495.1).bind fun t499=>((patch_Size.f k bt483.1).bind fun t500=>(if t499=t500 then ((patch_Size.f k bt483.1).bind fun t501=>((bookplateref12_Equal.f k x478000 x478001 x479000 x479001).bind fun t502=>(if ((t501==0)==t502)=true then ((patch_Size.f k bt491.1).bind fun t503=>((patch_Size.f k bt483.1).bind fun t504=>((patch_Size.f k bt487.1).bind fun t505=>(some (decide (t503≤(wrap64 (t504+t505)))))))) else (none)))) else (none)))) else (none))))))
def bookplatelaw18_PatchMetric.f (k:Nat) (a0_0:Int) (l0_1:List (S50)) (a1_0:Int) (l1_1:List (S50)) (a2_0:Int) (l2_1:List (S50)):Option (Bool):=(bookplatelaw18_awake.f k).bind fun t480=>(if t480=true then ((bookplatelaw18_few.f k a0_0 l0_1 a1_0 l1_1).bind fun t481=>(if t481=true then ((bookplatelaw18_few.f k a1_0 l1_1 a2_0 l2_1).bind fun t482=>(bookplatelaw18_PatchMetric.j0 k (!t482) a0_0 l0_1 a1_0 l1_1 a2_0 l2_1)) else (bookplatelaw18_PatchMetric.j0 k true a0_0 l0_1 a1_0 l1_1 a2_0 l2_1))) else (none))
def bookplatelaw18_PatchMetric.T9:Bool×List (List Nat×List Nat):=(true,[([],[]),([0],[0]),([1],[1]),([2],[2]),([3,2,2],[2,3]),([2],[2]),([5,4,2],[2,5]),([4,6,2],[2,4,6]),([2,7],[2,7]),([8,6],[8]),([9],[9]),([10,9,9],[9,10]),([11,9],[9,11]),([9],[9]),([9],[9]),([13,14,11,9],[9,13,14]),([12,15,9],[9,12,15]),([9,16],[9,16]),([17,15],[17]),([18],[18]),([19,18,18],[18,19]),([18],[18]),([21,20,18],[18,21]),([18],[18]),([23,22,18],[18,23]),([22,24,18],[18,22,24]),([20,25,18],[18,20,25]),([18,26],[18,26]),([27,24,0,1,2,3,4,5,6,7,8,9,10,11,12,13,14,15,16,17,18,19,20,21,22,23,24,25,26,27],[27])])
def bookplatelaw18_PatchMetric.B9:List Nat:=[0,1,3,7,15,7,63,127,255,511,1023,2047,4095,1023,1023,28671,65535,131071,262143,524287,1048575,524287,4194303,524287,16777215,33554431,67108863,134217727,268435455]
theorem bookplatelaw18_PatchMetric.tab9:rtab .any (opsOf Tryd.f5 9)=bookplatelaw18_PatchMetric.T9:=by kernel_rfl
theorem bookplatelaw18_PatchMetric.bits9:waitsOk bookplatelaw18_PatchMetric.T9.2 bookplatelaw18_PatchMetric.B9=true:=by kernel_rfl
set_option maxHeartbeats 8000000 in
set_option maxRecDepth 100000 in
theorem bookplatelaw18_PatchMetric.calls (k:Nat) (a0_0:Int) (A0_1:Option Addr) (c0_1:Nat) (l0_1:List (S50)) (a1_0:Int) (A1_1:Option Addr) (c1_1:Nat) (l1_1:List (S50)) (a2_0:Int) (A2_1:Option Addr) (c2_1:Nat) (l2_1:List (S50)) (r:Bool) (w:World) (hT:PTabs w) (hr0_1:Kd.C k50 w A0_1 l0_1.length l0_1) (hc0_1:l0_1.length≤c0_1) (hr1_1:Kd.C k50 w A1_1 l1_1.length l1_1) (hc1_1:l1_1.length≤c1_1) (hr2_1:Kd.C k50 w A2_1 l2_1.length l2_1) (hc2_1:l2_1.length≤c2_1) (h:bookplatelaw18_PatchMetric.f k a0_0 l0_1 a1_0 l1_1 a2_0 l2_1=some r):
 Calls Tryd.prog 5 #[.agg #[.int .i64 a0_0,.slice A0_1 l0_1.length c0_1],.agg #[.int .i64 a1_0,.slice A1_1 l1_1.length c1_1],.agg #[.int .i64 a2_0,.slice A2_1 l2_1.length c2_1]] w fun e w'=>e= .returned (.bool r)∧Below w.heap.size w w':=by
 have hu24:=Tryd.underlying24
 have HR0_1:=Aside0.mk hr0_1
 have HC0_1:=Aside0.mk hc0_1
 clear hr0_1 hc0_1
 have HR1_1:=Aside0.mk hr1_1
 have HC1_1:=Aside0.mk hc1_1
 clear hr1_1 hc1_1
 have HR2_1:=Aside0.mk hr2_1
 have HC2_1:=Aside0.mk hc2_1
 clear hr2_1 hc2_1
 have HB:=Aside0.mk (Below.refl w.heap.size w)
 have HT:=Aside0.mk hT
 clear hT
 have H:((bookplatelaw18_awake.f k).bind fun t480=>(if t480=true then ((bookplatelaw18_few.f k a0_0 l0_1 a1_0 l1_1).bind fun t481=>(if t481=true then ((bookplatelaw18_few.f k a1_0 l1_1 a2_0 l2_1).bind fun t482=>(bookplatelaw18_PatchMetric.j0 k (!t482) a0_0 l0_1 a1_0 l1_1 a2_0 l2_1)) else (bookplatelaw18_PatchMetric.j0 k true a0_0 l0_1 a1_0 l1_1 a2_0 l2_1))) else (none)))=some r:=h
 clear h
 obtain ⟨t480,A4,H⟩:=ob_ H
 by_cases c5:t480=true
 {
 subst c5
 replace H:=tp_ H
 have HC6:=Aside0.mk H
 clear H
 go_enter Tryd.func5,Tryd.ntmps5
 go_upto_region 3 with (first|((with_reducible refine gate_dst (N:=3) rfl ?_);refine bx_ (N:=3) (cs:=#[.int .i64 a0_0,.slice A0_1 l0_1.length c0_1]) (t:=24) ?_;intro gb477 hg w7 hbox hb;have n_:=as4_ (below_step b0_ hb) (hbox) ((g0_ hg b0_:w.heap.size≤gb477)) ((g0_ hg b0_:w.heap.size≤gb477));clear HB;obtain ⟨HB,BK477,GW477,GE477⟩:=n_;clear hb hbox hg)|((with_reducible refine gate_dst (N:=4) rfl ?_);refine bx_ (N:=4) (cs:=#[.int .i64 a1_0,.slice A1_1 l1_1.length c1_1]) (t:=24) ?_;intro gb478 hg w8 hbox hb;have n_:=as7_ (bb_ BK477 hb) (below_step b0_ hb) (hbox) ((g0_ hg b0_:w.heap.size≤gb478)) ((g0_ hg b0_:w.heap.size≤gb478)) ((g1_ hg k0_:gb477≠gb478)) ((g2_ hg k0_:gb478≠gb477));clear BK477 HB;obtain ⟨BK477,HB,BK478,GW478,GE478,NB477_478,NB478_477⟩:=n_;clear hb hbox hg)|((with_reducible refine gate_dst (N:=5) rfl ?_);refine bx_ (N:=5) (cs:=#[.int .i64 a2_0,.slice A2_1 l2_1.length c2_1]) (t:=24) ?_;intro gb479 hg w9 hbox hb;have n_:=as10_ (bb_ BK477 hb) (bb_ BK478 hb) (below_step b0_ hb) (hbox) ((g0_ hg b0_:w.heap.size≤gb479)) ((g0_ hg b0_:w.heap.size≤gb479)) ((g1_ hg k0_:gb477≠gb479)) ((g2_ hg k0_:gb479≠gb477)) ((g1_ hg k0_:gb478≠gb479)) ((g2_ hg k0_:gb479≠gb478));clear BK477 BK478 HB;obtain ⟨BK477,BK478,HB,BK479,GW479,GE479,NB477_479,NB479_477,NB478_479,NB479_478⟩:=n_;clear hb hbox hg)|((with_reducible refine gate_callee (f:=7) rfl ?_);refine gl_ (some 15) Tryd.func7 #[] ?_;(with_reducible refine (bookplatelaw18_awake.calls k true _ ?side1 A4.out).mono ?_);(case side1=>exact PTabs.step HT.out b0_);rintro e w10 ⟨rfl,hb⟩;refine ⟨_,rfl,?_⟩;have n_:=as4_ (bb_ BK477 hb) (bb_ BK478 hb) (bb_ BK479 hb) (below_step b0_ hb);clear BK477 BK478 BK479 HB;obtain ⟨BK477,BK478,BK479,HB⟩:=n_;(try clear hb)))
 (try simp only [Act.put,List.setIfInBounds_toArray,List.set_cons_zero,List.set_cons_succ])
 go_cut [26] (fun v26 wc=>∃ (kq:Nat) (x26_5:Bool),v26= .bool x26_5∧Aside0 (bookplatelaw18_PatchMetric.j0 kq x26_5 a0_0 l0_1 a1_0 l1_1 a2_0 l2_1=some r)∧Aside0 (kq≤k)∧Aside0 (wc.heap[gb477]?=some (.cells #[.int .i64 a0_0,(.slice A0_1 l0_1.length c0_1)] 24 (0,0)))∧Aside0 (wc.heap[gb478]?=some (.cells #[.int .i64 a1_0,(.slice A1_1 l1_1.length c1_1)] 24 (0,0)))∧Aside0 (wc.heap[gb479]?=some (.cells #[.int .i64 a2_0,(.slice A2_1 l2_1.length c2_1)] 24 (0,0)))∧Aside0 (Below w.heap.size w wc))
 case first=>
  (
 have H:=HC6.out
 clear HC6
 obtain ⟨t481,A11,H⟩:=ob_ H
 by_cases c12:t481=true
 {
 subst c12
 replace H:=tp_ H
 obtain ⟨t482,A13,H⟩:=ob_ H
 have H':=Aside0.mk H
 clear H
 have hnb14:=NB477_478.out
 have hnc14:=NB478_477.out
 have hnb15:=NB477_479.out
 have hnc15:=NB479_477.out
 have hcz16_0:w10.cell? ⟨gb477,0,none⟩=some (.int .i64 a0_0):=(blk_cell BK477.out 0).trans rfl;have hcz16_1:w10.cell? ⟨gb477,1,none⟩=some (.slice A0_1 l0_1.length c0_1):=(blk_cell BK477.out 1).trans rfl
 have hfz16_0:=blk_frozen BK477.out 0
 have hfz16_1:=blk_frozen BK477.out 1
 have hnb17:=NB478_479.out
 have hnc17:=NB479_478.out
 have hcz18_0:w10.cell? ⟨gb478,0,none⟩=some (.int .i64 a1_0):=(blk_cell BK478.out 0).trans rfl;have hcz18_1:w10.cell? ⟨gb478,1,none⟩=some (.slice A1_1 l1_1.length c1_1):=(blk_cell BK478.out 1).trans rfl
 have hfz18_0:=blk_frozen BK478.out 0
 have hfz18_1:=blk_frozen BK478.out 1
 go_wp2_with (first|((with_reducible refine gate_callee (f:=18) rfl ?_);refine gl_ (some 19) Tryd.func18 #[.agg #[.int .i64 a0_0,.slice A0_1 l0_1.length c0_1],.agg #[.int .i64 a1_0,.slice A1_1 l1_1.length c1_1]] ?_;(with_reducible refine (bookplatelaw18_few.calls k a0_0 _ _ l0_1 a1_0 _ _ l1_1 true _ ?side1 ?side2 ?side3 ?side4 A11.out).mono ?_);(case side1=>exact c0_);(case side2=>exact HC0_1.out);(case side3=>exact c0_);(case side4=>exact HC1_1.out);rintro e w19 ⟨rfl,hb⟩;refine ⟨_,rfl,?_⟩;have n_:=as4_ (bb_ BK477 hb) (bb_ BK478 hb) (bb_ BK479 hb) (below_step b0_ hb);clear BK477 BK478 BK479 HB;obtain ⟨BK477,BK478,BK479,HB⟩:=n_;(try clear hb);obtain ⟨hcz20_0,hcz20_1,hfz20_0,hfz20_1⟩:=ce2_ BK478;obtain ⟨hcz21_0,hcz21_1,hfz21_0,hfz21_1⟩:=ce2_ BK479)|(go_at_call 18;(with_reducible refine (bookplatelaw18_few.calls k a1_0 _ _ l1_1 a2_0 _ _ l2_1 t482 _ ?side1 ?side2 ?side3 ?side4 A13.out).mono ?_);(case side1=>exact c0_);(case side2=>exact HC1_1.out);(case side3=>exact c0_);(case side4=>exact HC2_1.out);rintro e w22 ⟨rfl,hb⟩;have n_:=as4_ (bb_ BK477 hb) (bb_ BK478 hb) (bb_ BK479 hb) (below_step b0_ hb);clear BK477 BK478 BK479 HB;obtain ⟨BK477,BK478,BK479,HB⟩:=n_;(try clear hb)))
 go_meet
 case rel=>exact ⟨_,(!t482),r0_,H',⟨by first|omega|exact Nat.le_refl _⟩,⟨k0_⟩,⟨k0_⟩,⟨k0_⟩,⟨b0_⟩⟩
 }
 {
 replace c12:=Bool.eq_false_iff.mpr c12
 subst c12
 replace H:=fn_ H
 have H':=Aside0.mk H
 clear H
 have hnb23:=NB477_478.out
 have hnc23:=NB478_477.out
 have hnb24:=NB477_479.out
 have hnc24:=NB479_477.out
 have hcz25_0:w10.cell? ⟨gb477,0,none⟩=some (.int .i64 a0_0):=(blk_cell BK477.out 0).trans rfl;have hcz25_1:w10.cell? ⟨gb477,1,none⟩=some (.slice A0_1 l0_1.length c0_1):=(blk_cell BK477.out 1).trans rfl
 have hfz25_0:=blk_frozen BK477.out 0
 have hfz25_1:=blk_frozen BK477.out 1
 have hnb26:=NB478_479.out
 have hnc26:=NB479_478.out
 have hcz27_0:w10.cell? ⟨gb478,0,none⟩=some (.int .i64 a1_0):=(blk_cell BK478.out 0).trans rfl;have hcz27_1:w10.cell? ⟨gb478,1,none⟩=some (.slice A1_1 l1_1.length c1_1):=(blk_cell BK478.out 1).trans rfl
 have hfz27_0:=blk_frozen BK478.out 0
 have hfz27_1:=blk_frozen BK478.out 1
 go_wp2_with (first|((with_reducible refine gate_callee (f:=18) rfl ?_);refine gl_ (some 19) Tryd.func18 #[.agg #[.int .i64 a0_0,.slice A0_1 l0_1.length c0_1],.agg #[.int .i64 a1_0,.slice A1_1 l1_1.length c1_1]] ?_;(with_reducible refine (bookplatelaw18_few.calls k a0_0 _ _ l0_1 a1_0 _ _ l1_1 false _ ?side1 ?side2 ?side3 ?side4 A11.out).mono ?_);(case side1=>exact c0_);(case side2=>exact HC0_1.out);(case side3=>exact c0_);(case side4=>exact HC1_1.out);rintro e w28 ⟨rfl,hb⟩;refine ⟨_,rfl,?_⟩;have n_:=as4_ (bb_ BK477 hb) (bb_ BK478 hb) (bb_ BK479 hb) (below_step b0_ hb);clear BK477 BK478 BK479 HB;obtain ⟨BK477,BK478,BK479,HB⟩:=n_;(try clear hb)))
 go_meet
 case rel=>exact ⟨_,(true),r0_,H',⟨by first|omega|exact Nat.le_refl _⟩,⟨k0_⟩,⟨k0_⟩,⟨k0_⟩,⟨b0_⟩⟩
 }
  )
 case rest=>
  (
 clear HC6
 try clear c1
 try clear c2
 try clear p2
 try clear c5
 try clear c7
 try clear c12
 try clear c14
 try clear c15
 try clear c17
 try clear c18
 try clear c23
 try clear c24
 try clear c26
 try clear hcz16_0
 try clear hcz16_1
 try clear hcz18_0
 try clear hcz18_1
 try clear hcz20_0
 try clear hcz20_1
 try clear hcz21_0
 try clear hcz21_1
 try clear hcz25_0
 try clear hcz25_1
 try clear hcz27_0
 try clear hcz27_1
 try clear hfz16_0
 try clear hfz16_1
 try clear hfz18_0
 try clear hfz18_1
 try clear hfz20_0
 try clear hfz20_1
 try clear hfz21_0
 try clear hfz21_1
 try clear hfz25_0
 try clear hfz25_1
 try clear hfz27_0
 try clear hfz27_1
 obtain ⟨kq,x26_5,rfl,HA,HJ5,BK477,BK478,BK479,HB⟩:=hcut
 cases kq with
 |zero=>exact absurd HA.out (by simp [bookplatelaw18_PatchMetric.j0])
 |succ kj5=>
  (
 have H:=HA.out
 clear HA
 simp only [bookplatelaw18_PatchMetric.j0] at H
 by_cases c29:x26_5=true
 {
 subst c29
 replace H:=tp_ H
 obtain rfl:=Option.some.inj H
 go_wp2
 go_ret
 exact ⟨by first|rfl|((try rw [←Option.some.inj (A4.out.symm.trans A11.out)]);(try rw [←Option.some.inj (A4.out.symm.trans A13.out)]);(try rw [←Option.some.inj (A11.out.symm.trans A13.out)]);rfl)|(simp [errW_none,errW_some]<;>rfl)|(simp [*,errW_none,errW_some]<;>rfl),b0_⟩
 }
 {
 replace c29:=Bool.eq_false_iff.mpr c29
 subst c29
 replace H:=fn_ H
 replace H:=Option.bind_eq_some_iff.mp H
 obtain ⟨⟨t483,t486⟩,A300,H⟩:=H
 replace H:((patch_Diff.f kj5 a1_0 l1_1 a2_0 l2_1).bind fun bt487=>((patch_Diff.f kj5 a0_0 l0_1 a2_0 l2_1).bind fun bt491=>((patch_Diff.f kj5 a1_0 l1_1 a0_0 l0_1).bind fun bt495=>(if bt495.2=0 then ((patch_Size.f kj5 bt495.1).bind fun t499=>((patch_Size.f kj5 t483).bind fun t500=>(if t499=t500 then ((patch_Size.f kj5 t483).bind fun t501=>((bookplateref12_Equal.f kj5 a0_0 l0_1 a1_0 l1_1).bind fun t502=>(if ((t501==0)==t502)=true then ((patch_Size.f kj5 bt491.1).bind fun t503=>((patch_Size.f kj5 t483).bind fun t504=>((patch_Size.f kj5 bt487.1).bind fun t505=>(some (decide (t503≤(wrap64 (t504+t505)))))))) else (none)))) else (none)))) else (none)))))=some r:=H
 have A30:=Aside0.mk A300
 clear A300
 replace H:=Option.bind_eq_some_iff.mp H
 obtain ⟨⟨t487,t490⟩,A310,H⟩:=H
 replace H:((patch_Diff.f kj5 a0_0 l0_1 a2_0 l2_1).bind fun bt491=>((patch_Diff.f kj5 a1_0 l1_1 a0_0 l0_1).bind fun bt495=>(if bt495.2=0 then ((patch_Size.f kj5 bt495.1).bind fun t499=>((patch_Size.f kj5 t483).bind fun t500=>(if t499=t500 then ((patch_Size.f kj5 t483).bind fun t501=>((bookplateref12_Equal.f kj5 a0_0 l0_1 a1_0 l1_1).bind fun t502=>(if ((t501==0)==t502)=true then ((patch_Size.f kj5 bt491.1).bind fun t503=>((patch_Size.f kj5 t483).bind fun t504=>((patch_Size.f kj5 t487).bind fun t505=>(some (decide (t503≤(wrap64 (t504+t505)))))))) else (none)))) else (none)))) else (none))))=some r:=H
 have A31:=Aside0.mk A310
 clear A310
 replace H:=Option.bind_eq_some_iff.mp H
 obtain ⟨⟨t491,t494⟩,A320,H⟩:=H
 replace H:((patch_Diff.f kj5 a1_0 l1_1 a0_0 l0_1).bind fun bt495=>(if bt495.2=0 then ((patch_Size.f kj5 bt495.1).bind fun t499=>((patch_Size.f kj5 t483).bind fun t500=>(if t499=t500 then ((patch_Size.f kj5 t483).bind fun t501=>((bookplateref12_Equal.f kj5 a0_0 l0_1 a1_0 l1_1).bind fun t502=>(if ((t501==0)==t502)=true then ((patch_Size.f kj5 t491).bind fun t503=>((patch_Size.f kj5 t483).bind fun t504=>((patch_Size.f kj5 t487).bind fun t505=>(some (decide (t503≤(wrap64 (t504+t505)))))))) else (none)))) else (none)))) else (none)))=some r:=H
 have A32:=Aside0.mk A320
 clear A320
 replace H:=Option.bind_eq_some_iff.mp H
 obtain ⟨⟨t495,t498⟩,A330,H⟩:=H
 replace H:(if t498=0 then ((patch_Size.f kj5 t495).bind fun t499=>((patch_Size.f kj5 t483).bind fun t500=>(if t499=t500 then ((patch_Size.f kj5 t483).bind fun t501=>((bookplateref12_Equal.f kj5 a0_0 l0_1 a1_0 l1_1).bind fun t502=>(if ((t501==0)==t502)=true then ((patch_Size.f kj5 t491).bind fun t503=>((patch_Size.f kj5 t483).bind fun t504=>((patch_Size.f kj5 t487).bind fun t505=>(some (decide (t503≤(wrap64 (t504+t505)))))))) else (none)))) else (none)))) else (none))=some r:=H
 have A33:=Aside0.mk A330
 clear A330
 by_cases c34:t498=0
 {
 rw [if_pos c34] at H
 have c34b0:(t498==0)=true:=beq_iff_eq.mpr c34
 have c34b1:(t498 !=0)=false:=bne_eq_false_iff_eq.mpr c34
 clear c34
 obtain ⟨t499,A35,H⟩:=ob_ H
 obtain ⟨t500,A36,H⟩:=ob_ H
 by_cases c37:t499=t500
 {
 rw [if_pos c37] at H
 have c37b0:(t499==t500)=true:=beq_iff_eq.mpr c37
 have c37b1:(t499 !=t500)=false:=bne_eq_false_iff_eq.mpr c37
 clear c37
 obtain ⟨t501,A38,H⟩:=ob_ H
 obtain ⟨t502,A39,H⟩:=ob_ H
 by_cases c40:((t501==0)==t502)=true
 {
 rw [if_pos c40] at H
 have c40b0:((t501==0)==t502)=true:=c40
 (try (have c40b1:decide ((t501==0)=t502)=true:=by simpa using c40))
 (try (have c40b2:((t501==0)==t502)=true:=by simpa using c40))
 clear c40
 obtain ⟨t503,A41,H⟩:=ob_ H
 obtain ⟨t504,A42,H⟩:=ob_ H
 obtain ⟨t505,A43,H⟩:=ob_ H
 obtain rfl:=Option.some.inj H
 have hnb44:=NB477_478.out
 have hnc44:=NB478_477.out
 have hnb45:=NB477_479.out
 have hnc45:=NB479_477.out
 have hcz46_0:wc.cell? ⟨gb477,0,none⟩=some (.int .i64 a0_0):=(blk_cell BK477.out 0).trans rfl;have hcz46_1:wc.cell? ⟨gb477,1,none⟩=some (.slice A0_1 l0_1.length c0_1):=(blk_cell BK477.out 1).trans rfl
 have hfz46_0:=blk_frozen BK477.out 0
 have hfz46_1:=blk_frozen BK477.out 1
 have hnb47:=NB478_479.out
 have hnc47:=NB479_478.out
 have hcz48_0:wc.cell? ⟨gb478,0,none⟩=some (.int .i64 a1_0):=(blk_cell BK478.out 0).trans rfl;have hcz48_1:wc.cell? ⟨gb478,1,none⟩=some (.slice A1_1 l1_1.length c1_1):=(blk_cell BK478.out 1).trans rfl
 have hfz48_0:=blk_frozen BK478.out 0
 have hfz48_1:=blk_frozen BK478.out 1
 try go_wp2_with (first|((with_reducible refine gate_callee (f:=9) rfl ?_);refine gl_ (some 30) Tryd.func9 #[.agg #[.int .i64 a0_0,.slice A0_1 l0_1.length c0_1],.agg #[.int .i64 a1_0,.slice A1_1 l1_1.length c1_1]] ?_;(with_reducible refine (patch_Diff.calls kj5 a0_0 _ _ l0_1 a1_0 _ _ l1_1 t483 t486 _ ?side5 ?side1 ?side2 ?side3 ?side4 A30.out).mono ?_);(case side1=>exact c0_);(case side2=>exact HC0_1.out);(case side3=>exact c0_);(case side4=>exact HC1_1.out);(case side5=>exact PTabs.step HT.out b0_);rintro e w49 ⟨v484,rfl,ho0,hb⟩;refine ⟨_,rfl,?_⟩;have n_:=as5_ (Kd.R_lower ho0 (below_size b0_)) (bb_ BK477 hb) (bb_ BK478 hb) (bb_ BK479 hb) (below_step b0_ hb);clear BK477 BK478 BK479 HB;obtain ⟨HO485,BK477,BK478,BK479,HB⟩:=n_;(try clear hb);(try clear ho0);obtain ⟨hcz50_0,hcz50_1,hfz50_0,hfz50_1⟩:=ce2_ BK478;obtain ⟨hcz51_0,hcz51_1,hfz51_0,hfz51_1⟩:=ce2_ BK479)|((with_reducible refine gate_callee (f:=9) rfl ?_);refine gl_ (some 36) Tryd.func9 #[.agg #[.int .i64 a1_0,.slice A1_1 l1_1.length c1_1],.agg #[.int .i64 a2_0,.slice A2_1 l2_1.length c2_1]] ?_;(with_reducible refine (patch_Diff.calls kj5 a1_0 _ _ l1_1 a2_0 _ _ l2_1 t487 t490 _ ?side5 ?side1 ?side2 ?side3 ?side4 A31.out).mono ?_);(case side1=>exact c0_);(case side2=>exact HC1_1.out);(case side3=>exact c0_);(case side4=>exact HC2_1.out);(case side5=>exact PTabs.step HT.out b0_);rintro e w52 ⟨v488,rfl,ho0,hb⟩;refine ⟨_,rfl,?_⟩;have n_:=as6_ (Kd.R_elder' (xR_ HO485) (Kd.R_base ho0) hb) (Kd.R_lower (Kd.R_new' ho0 (Kd.R_lt (xR_ HO485))) (below_size b0_)) (bb_ BK477 hb) (bb_ BK478 hb) (bb_ BK479 hb) (below_step b0_ hb);clear HO485 BK477 BK478 BK479;clear HB;obtain ⟨HO485,HO489,BK477,BK478,BK479,HB⟩:=n_;(try clear hb);(try clear ho0);obtain ⟨hcz53_0,hcz53_1,hfz53_0,hfz53_1⟩:=ce2_ BK477;obtain ⟨hcz54_0,hcz54_1,hfz54_0,hfz54_1⟩:=ce2_ BK479)|((with_reducible refine gate_callee (f:=9) rfl ?_);refine gl_ (some 42) Tryd.func9 #[.agg #[.int .i64 a0_0,.slice A0_1 l0_1.length c0_1],.agg #[.int .i64 a2_0,.slice A2_1 l2_1.length c2_1]] ?_;(with_reducible refine (patch_Diff.calls kj5 a0_0 _ _ l0_1 a2_0 _ _ l2_1 t491 t494 _ ?side5 ?side1 ?side2 ?side3 ?side4 A32.out).mono ?_);(case side1=>exact c0_);(case side2=>exact HC0_1.out);(case side3=>exact c0_);(case side4=>exact HC2_1.out);(case side5=>exact PTabs.step HT.out b0_);rintro e w55 ⟨v492,rfl,ho0,hb⟩;refine ⟨_,rfl,?_⟩;have n_:=as7_ (Kd.R_elder' (xR_ HO485) (Kd.R_base ho0) hb) (Kd.R_elder' (xR_ HO489) (Kd.R_base ho0) hb) (Kd.R_lower (Kd.R_new' (Kd.R_new' ho0 (Kd.R_lt (xR_ HO485))) (Kd.R_lt (xR_ HO489))) (below_size b0_)) (bb_ BK477 hb) (bb_ BK478 hb) (bb_ BK479 hb) (below_step b0_ hb);clear HO485 HO489 BK477 BK478;clear BK479 HB;obtain ⟨HO485,HO489,HO493,BK477,BK478,BK479,HB⟩:=n_;(try clear hb);(try clear ho0);obtain ⟨hcz56_0,hcz56_1,hfz56_0,hfz56_1⟩:=ce2_ BK478;obtain ⟨hcz57_0,hcz57_1,hfz57_0,hfz57_1⟩:=ce2_ BK477)|((with_reducible refine gate_callee (f:=9) rfl ?_);refine gl_ (some 48) Tryd.func9 #[.agg #[.int .i64 a1_0,.slice A1_1 l1_1.length c1_1],.agg #[.int .i64 a0_0,.slice A0_1 l0_1.length c0_1]] ?_;(with_reducible refine (patch_Diff.calls kj5 a1_0 _ _ l1_1 a0_0 _ _ l0_1 t495 t498 _ ?side5 ?side1 ?side2 ?side3 ?side4 A33.out).mono ?_);(case side1=>exact c0_);(case side2=>exact HC1_1.out);(case side3=>exact c0_);(case side4=>exact HC0_1.out);(case side5=>exact PTabs.step HT.out b0_);rintro e w58 ⟨v496,rfl,ho0,hb⟩;refine ⟨_,rfl,?_⟩;have n_:=as8_ (Kd.R_elder' (xR_ HO485) (Kd.R_base ho0) hb) (Kd.R_elder' (xR_ HO489) (Kd.R_base ho0) hb) (Kd.R_elder' (xR_ HO493) (Kd.R_base ho0) hb) (Kd.R_lower (Kd.R_new' (Kd.R_new' (Kd.R_new' ho0 (Kd.R_lt (xR_ HO485))) (Kd.R_lt (xR_ HO489))) (Kd.R_lt (xR_ HO493))) (below_size b0_)) (bb_ BK477 hb) (bb_ BK478 hb) (bb_ BK479 hb) (below_step b0_ hb);clear HO485 HO489 HO493 BK477;clear BK478 BK479 HB;obtain ⟨HO485,HO489,HO493,HO497,BK477,BK478,BK479,HB⟩:=n_;(try clear hb);(try clear ho0)))
 have n0_:=Aside0.mk (Kd.R_drew HO485.out)
 have n1_:=Aside0.mk (Kd.R_drew HO489.out)
 have n2_:=Aside0.mk (Kd.R_drew HO493.out)
 have n3_:=Aside0.mk (Kd.R_drew HO497.out)
 have n4_:=Aside0.mk (blk_drew BK477.out)
 have n5_:=Aside0.mk (blk_drew BK478.out)
 have n6_:=Aside0.mk (blk_drew BK479.out)
 have n7_:=Aside0.mk (below_drew1 HB.out)
 clear HO485
 clear HO489
 clear HO493
 clear HO497
 clear BK477
 clear BK478
 clear BK479
 clear HB
 have HO485:=n0_
 have HO489:=n1_
 have HO493:=n2_
 have HO497:=n3_
 have BK477:=n4_
 have BK478:=n5_
 have BK479:=n6_
 have HB:=n7_
 clear n0_ n1_ n2_ n3_ n4_ n5_ n6_ n7_
 obtain ⟨Ao60,co60,eo60⟩:=Kd.R_slice HO497.out
 (first|subst eo60|(injection eo60 with f1_ f2_ f3_;have f4_:=f1_.symm;have f5_:=f3_.symm;clear f1_ f2_ f3_;subst f4_;subst f5_))
 refine start_ (n:=29) (S:=fun w'=>w'.cell? ⟨gb477,0,none⟩=some (.int .i64 a0_0)∧w'.cell? ⟨gb477,1,none⟩=some (.slice A0_1 l0_1.length c0_1)∧w'.cell? ⟨gb478,0,none⟩=some (.int .i64 a1_0)∧w'.cell? ⟨gb478,1,none⟩=some (.slice A1_1 l1_1.length c1_1)) (ds:=[]) #[false,false,false,false,false,false,false,false,false,false,false,false,false,false,false,false,false,false,false,false,false,false,false,false,false,false,false,false,false] (by kernel_rfl) rfl rfl ⟨(blk_cell BK477.out 0).trans rfl,(blk_cell BK477.out 1).trans rfl,(blk_cell BK478.out 0).trans rfl,(blk_cell BK478.out 1).trans rfl⟩ (fun hHeld=> ?_);refine with_tabW bookplatelaw18_PatchMetric.tab9 bookplatelaw18_PatchMetric.bits9 (fun HT_ HW_=> ?_)
 generalize w58.drew=w59 at HO485 HO489 HO493 HO497 BK477 BK478 BK479 HB hHeld⊢
 refine pA_ (i:=0) (N:=some 51) HT_ ?_
 refine pA_ (i:=1) (N:=some 52) HT_ ?_
 refine pA_ (i:=2) (N:=some 53) HT_ ?_
 refine pA_ (i:=3) (N:=some 54) HT_ ?_
 refine pA_ (i:=5) (N:=some 56) HT_ ?_
 refine one_ (i:=4) (N:=some 55) #[true,true,true,true,true,true,false,false,false,false,false,false,false,false,false,false,false,false,false,false,false,false,false,false,false,false,false,false,false] rfl rfl (one_of HT_.out (by kernel_rfl)) (by decide) (fun K hK=> ?_)
 refine goes_ Tryd.func16 (by kernel_rfl) rfl #[.slice Ao60 t495.length co60] (by rfl) rfl rfl ml_ ?_
 with_reducible refine (patch_Size.calls kj5 _ _ t495 t499 _ ?side1 ?side2 A35.out).mono ?_
 (case side1=>repeat (first|exact (Kd.R_reads' HO497.out).2.2|(with_reducible refine Kd.C_alloc ?_ _)|(with_reducible refine Kd.C_drewN ?_ _)|(with_reducible refine Kd.C_drew ?_)))
 (case side2=>exact (Kd.R_reads' HO497.out).2.1)
 rintro e w61 ⟨rfl,hb⟩
 refine ⟨_,rfl,?_⟩
 have n0_:=Aside0.mk (Kd.R_below (xR_ HO485) hb)
 have n1_:=Aside0.mk (Kd.R_below (xR_ HO489) hb)
 have n2_:=Aside0.mk (Kd.R_below (xR_ HO493) hb)
 have n3_:=Aside0.mk (Kd.R_below (xR_ HO497) hb)
 have n4_:=Aside0.mk (bb_ BK477 hb)
 have n5_:=Aside0.mk (bb_ BK478 hb)
 have n6_:=Aside0.mk (bb_ BK479 hb)
 have n7_:=Aside0.mk (below_step b0_ hb)
 clear HO485
 clear HO489
 clear HO493
 clear HO497
 clear BK477
 clear BK478
 clear BK479
 clear HB
 have HO485:=n0_
 have HO489:=n1_
 have HO493:=n2_
 have HO497:=n3_
 have BK477:=n4_
 have BK478:=n5_
 have BK479:=n6_
 have HB:=n7_
 clear n0_ n1_ n2_ n3_ n4_ n5_ n6_ n7_
 (try clear hb)
 obtain ⟨Ao62,co62,eo62⟩:=Kd.R_slice HO485.out
 (first|subst eo62|(injection eo62 with f1_ f2_ f3_;have f4_:=f1_.symm;have f5_:=f3_.symm;clear f1_ f2_ f3_;subst f4_;subst f5_))
 refine hK.out _ _ ⟨(blk_cell BK477.out 0).trans rfl,(blk_cell BK477.out 1).trans rfl,(blk_cell BK478.out 0).trans rfl,(blk_cell BK478.out 1).trans rfl⟩ (fun hHeld=> ?_)
 clear hK K
 refine norm_ (a':=?_) ?_ ?_
 rotate_left
 {
 show Act.put _ (some 55) _=_
 simp only [Act.put,List.setIfInBounds_toArray,List.set_cons_zero,List.set_cons_succ,i64_w,i32_w]
 rfl
 }
 refine one_ (i:=6) (N:=some 57) #[true,true,true,true,true,true,true,false,false,false,false,false,false,false,false,false,false,false,false,false,false,false,false,false,false,false,false,false,false] rfl rfl (one_of HT_.out (by kernel_rfl)) (by decide) (fun K hK=> ?_)
 refine goes_ Tryd.func16 (by kernel_rfl) rfl #[.slice Ao62 t483.length co62] (by rfl) rfl rfl ml_ ?_
 with_reducible refine (patch_Size.calls kj5 _ _ t483 t500 _ ?side1 ?side2 A36.out).mono ?_
 (case side1=>repeat (first|exact (Kd.R_reads' HO485.out).2.2|(with_reducible refine Kd.C_alloc ?_ _)|(with_reducible refine Kd.C_drewN ?_ _)|(with_reducible refine Kd.C_drew ?_)))
 (case side2=>exact (Kd.R_reads' HO485.out).2.1)
 rintro e w63 ⟨rfl,hb⟩
 refine ⟨_,rfl,?_⟩
 have n0_:=Aside0.mk (Kd.R_below (xR_ HO485) hb)
 have n1_:=Aside0.mk (Kd.R_below (xR_ HO489) hb)
 have n2_:=Aside0.mk (Kd.R_below (xR_ HO493) hb)
 have n3_:=Aside0.mk (Kd.R_below (xR_ HO497) hb)
 have n4_:=Aside0.mk (bb_ BK477 hb)
 have n5_:=Aside0.mk (bb_ BK478 hb)
 have n6_:=Aside0.mk (bb_ BK479 hb)
 have n7_:=Aside0.mk (below_step b0_ hb)
 clear HO485
 clear HO489
 clear HO493
 clear HO497
 clear BK477
 clear BK478
 clear BK479
 clear HB
 have HO485:=n0_
 have HO489:=n1_
 have HO493:=n2_
 have HO497:=n3_
 have BK477:=n4_
 have BK478:=n5_
 have BK479:=n6_
 have HB:=n7_
 clear n0_ n1_ n2_ n3_ n4_ n5_ n6_ n7_
 (try clear hb)
 refine hK.out _ _ ⟨(blk_cell BK477.out 0).trans rfl,(blk_cell BK477.out 1).trans rfl,(blk_cell BK478.out 0).trans rfl,(blk_cell BK478.out 1).trans rfl⟩ (fun hHeld=> ?_)
 clear hK K
 refine norm_ (a':=?_) ?_ ?_
 rotate_left
 {
 show Act.put _ (some 57) _=_
 simp only [Act.put,List.setIfInBounds_toArray,List.set_cons_zero,List.set_cons_succ,i64_w,i32_w]
 rfl
 }
 refine pA_ (i:=7) (N:=some 58) HT_ ?_
 refine pA_ (i:=8) (N:=some 59) HT_ ?_
 refine pA_ (i:=9) (N:=some 60) HT_ ?_
 refine pA_ (i:=10) (N:=some 61) HT_ ?_
 refine tA_ (i:=13) (N:=some 64) HT_ HW_ hHeld ?_
 refine tA_ (i:=14) (N:=some 65) HT_ HW_ hHeld ?_
 refine one_ (i:=11) (N:=some 62) #[true,true,true,true,true,true,true,true,true,true,true,true,false,true,true,false,false,false,false,false,false,false,false,false,false,false,false,false,false] rfl rfl (one_of HT_.out (by kernel_rfl)) (by decide) (fun K hK=> ?_)
 refine goes_ Tryd.func16 (by kernel_rfl) rfl #[.slice Ao62 t483.length co62] (by rfl) rfl rfl ml_ ?_
 with_reducible refine (patch_Size.calls kj5 _ _ t483 t501 _ ?side1 ?side2 A38.out).mono ?_
 (case side1=>repeat (first|exact (Kd.R_reads' HO485.out).2.2|(with_reducible refine Kd.C_alloc ?_ _)|(with_reducible refine Kd.C_drewN ?_ _)|(with_reducible refine Kd.C_drew ?_)))
 (case side2=>exact (Kd.R_reads' HO485.out).2.1)
 rintro e w64 ⟨rfl,hb⟩
 refine ⟨_,rfl,?_⟩
 have n0_:=Aside0.mk (Kd.R_below (xR_ HO485) hb)
 have n1_:=Aside0.mk (Kd.R_below (xR_ HO489) hb)
 have n2_:=Aside0.mk (Kd.R_below (xR_ HO493) hb)
 have n3_:=Aside0.mk (Kd.R_below (xR_ HO497) hb)
 have n4_:=Aside0.mk (bb_ BK477 hb)
 have n5_:=Aside0.mk (bb_ BK478 hb)
 have n6_:=Aside0.mk (bb_ BK479 hb)
 have n7_:=Aside0.mk (below_step b0_ hb)
 clear HO485
 clear HO489
 clear HO493
 clear HO497
 clear BK477
 clear BK478
 clear BK479
 clear HB
 have HO485:=n0_
 have HO489:=n1_
 have HO493:=n2_
 have HO497:=n3_
 have BK477:=n4_
 have BK478:=n5_
 have BK479:=n6_
 have HB:=n7_
 clear n0_ n1_ n2_ n3_ n4_ n5_ n6_ n7_
 (try clear hb)
 refine hK.out _ _ ⟨(blk_cell BK477.out 0).trans rfl,(blk_cell BK477.out 1).trans rfl,(blk_cell BK478.out 0).trans rfl,(blk_cell BK478.out 1).trans rfl⟩ (fun hHeld=> ?_)
 clear hK K
 refine norm_ (a':=?_) ?_ ?_
 rotate_left
 {
 show Act.put _ (some 62) _=_
 simp only [Act.put,List.setIfInBounds_toArray,List.set_cons_zero,List.set_cons_succ,i64_w,i32_w]
 rfl
 }
 refine pA_ (i:=12) (N:=some 63) HT_ ?_
 refine one_ (i:=15) (N:=some 66) #[true,true,true,true,true,true,true,true,true,true,true,true,true,true,true,true,false,false,false,false,false,false,false,false,false,false,false,false,false] rfl rfl (one_of HT_.out (by kernel_rfl)) (by decide) (fun K hK=> ?_)
 refine goes_ Tryd.func19 (by kernel_rfl) rfl #[.agg #[.int .i64 a0_0,.slice A0_1 l0_1.length c0_1],.agg #[.int .i64 a1_0,.slice A1_1 l1_1.length c1_1]] (by rfl) rfl rfl ml_ ?_
 with_reducible refine (bookplateref12_Equal.calls kj5 a0_0 _ _ l0_1 a1_0 _ _ l1_1 t502 _ ?side1 ?side2 ?side3 ?side4 A39.out).mono ?_
 (case side1=>exact c0_)
 (case side2=>exact HC0_1.out)
 (case side3=>exact c0_)
 (case side4=>exact HC1_1.out)
 rintro e w65 ⟨rfl,hb⟩
 refine ⟨_,rfl,?_⟩
 have n0_:=Aside0.mk (Kd.R_below (xR_ HO485) hb)
 have n1_:=Aside0.mk (Kd.R_below (xR_ HO489) hb)
 have n2_:=Aside0.mk (Kd.R_below (xR_ HO493) hb)
 have n3_:=Aside0.mk (Kd.R_below (xR_ HO497) hb)
 have n4_:=Aside0.mk (bb_ BK477 hb)
 have n5_:=Aside0.mk (bb_ BK478 hb)
 have n6_:=Aside0.mk (bb_ BK479 hb)
 have n7_:=Aside0.mk (below_step b0_ hb)
 clear HO485
 clear HO489
 clear HO493
 clear HO497
 clear BK477
 clear BK478
 clear BK479
 clear HB
 have HO485:=n0_
 have HO489:=n1_
 have HO493:=n2_
 have HO497:=n3_
 have BK477:=n4_
 have BK478:=n5_
 have BK479:=n6_
 have HB:=n7_
 clear n0_ n1_ n2_ n3_ n4_ n5_ n6_ n7_
 (try clear hb)
 obtain ⟨Ao66,co66,eo66⟩:=Kd.R_slice HO493.out
 (first|subst eo66|(injection eo66 with f1_ f2_ f3_;have f4_:=f1_.symm;have f5_:=f3_.symm;clear f1_ f2_ f3_;subst f4_;subst f5_))
 refine hK.out _ _ ⟨(blk_cell BK477.out 0).trans rfl,(blk_cell BK477.out 1).trans rfl,(blk_cell BK478.out 0).trans rfl,(blk_cell BK478.out 1).trans rfl⟩ (fun hHeld=> ?_)
 clear hK K
 refine norm_ (a':=?_) ?_ ?_
 rotate_left
 {
 show Act.put _ (some 66) _=_
 simp only [Act.put,List.setIfInBounds_toArray,List.set_cons_zero,List.set_cons_succ,i64_w,i32_w]
 rfl
 }
 refine pA_ (i:=16) (N:=some 67) HT_ ?_
 refine pA_ (i:=17) (N:=some 68) HT_ ?_
 refine pA_ (i:=18) (N:=some 69) HT_ ?_
 refine pA_ (i:=19) (N:=some 70) HT_ ?_
 refine pA_ (i:=21) (N:=some 72) HT_ ?_
 refine pA_ (i:=23) (N:=some 74) HT_ ?_
 refine one_ (i:=20) (N:=some 71) #[true,true,true,true,true,true,true,true,true,true,true,true,true,true,true,true,true,true,true,true,true,true,false,true,false,false,false,false,false] rfl rfl (one_of HT_.out (by kernel_rfl)) (by decide) (fun K hK=> ?_)
 refine goes_ Tryd.func16 (by kernel_rfl) rfl #[.slice Ao66 t491.length co66] (by rfl) rfl rfl ml_ ?_
 with_reducible refine (patch_Size.calls kj5 _ _ t491 t503 _ ?side1 ?side2 A41.out).mono ?_
 (case side1=>repeat (first|exact (Kd.R_reads' HO493.out).2.2|(with_reducible refine Kd.C_alloc ?_ _)|(with_reducible refine Kd.C_drewN ?_ _)|(with_reducible refine Kd.C_drew ?_)))
 (case side2=>exact (Kd.R_reads' HO493.out).2.1)
 rintro e w67 ⟨rfl,hb⟩
 refine ⟨_,rfl,?_⟩
 have n0_:=Aside0.mk (Kd.R_below (xR_ HO485) hb)
 have n1_:=Aside0.mk (Kd.R_below (xR_ HO489) hb)
 have n2_:=Aside0.mk (Kd.R_below (xR_ HO493) hb)
 have n3_:=Aside0.mk (Kd.R_below (xR_ HO497) hb)
 have n4_:=Aside0.mk (bb_ BK477 hb)
 have n5_:=Aside0.mk (bb_ BK478 hb)
 have n6_:=Aside0.mk (bb_ BK479 hb)
 have n7_:=Aside0.mk (below_step b0_ hb)
 clear HO485
 clear HO489
 clear HO493
 clear HO497
 clear BK477
 clear BK478
 clear BK479
 clear HB
 have HO485:=n0_
 have HO489:=n1_
 have HO493:=n2_
 have HO497:=n3_
 have BK477:=n4_
 have BK478:=n5_
 have BK479:=n6_
 have HB:=n7_
 clear n0_ n1_ n2_ n3_ n4_ n5_ n6_ n7_
 (try clear hb)
 refine hK.out _ _ ⟨(blk_cell BK477.out 0).trans rfl,(blk_cell BK477.out 1).trans rfl,(blk_cell BK478.out 0).trans rfl,(blk_cell BK478.out 1).trans rfl⟩ (fun hHeld=> ?_)
 clear hK K
 refine norm_ (a':=?_) ?_ ?_
 rotate_left
 {
 show Act.put _ (some 71) _=_
 simp only [Act.put,List.setIfInBounds_toArray,List.set_cons_zero,List.set_cons_succ,i64_w,i32_w]
 rfl
 }
 refine one_ (i:=22) (N:=some 73) #[true,true,true,true,true,true,true,true,true,true,true,true,true,true,true,true,true,true,true,true,true,true,true,true,false,false,false,false,false] rfl rfl (one_of HT_.out (by kernel_rfl)) (by decide) (fun K hK=> ?_)
 refine goes_ Tryd.func16 (by kernel_rfl) rfl #[.slice Ao62 t483.length co62] (by rfl) rfl rfl ml_ ?_
 with_reducible refine (patch_Size.calls kj5 _ _ t483 t504 _ ?side1 ?side2 A42.out).mono ?_
 (case side1=>repeat (first|exact (Kd.R_reads' HO485.out).2.2|(with_reducible refine Kd.C_alloc ?_ _)|(with_reducible refine Kd.C_drewN ?_ _)|(with_reducible refine Kd.C_drew ?_)))
 (case side2=>exact (Kd.R_reads' HO485.out).2.1)
 rintro e w68 ⟨rfl,hb⟩
 refine ⟨_,rfl,?_⟩
 have n0_:=Aside0.mk (Kd.R_below (xR_ HO485) hb)
 have n1_:=Aside0.mk (Kd.R_below (xR_ HO489) hb)
 have n2_:=Aside0.mk (Kd.R_below (xR_ HO493) hb)
 have n3_:=Aside0.mk (Kd.R_below (xR_ HO497) hb)
 have n4_:=Aside0.mk (bb_ BK477 hb)
 have n5_:=Aside0.mk (bb_ BK478 hb)
 have n6_:=Aside0.mk (bb_ BK479 hb)
 have n7_:=Aside0.mk (below_step b0_ hb)
 clear HO485
 clear HO489
 clear HO493
 clear HO497
 clear BK477
 clear BK478
 clear BK479
 clear HB
 have HO485:=n0_
 have HO489:=n1_
 have HO493:=n2_
 have HO497:=n3_
 have BK477:=n4_
 have BK478:=n5_
 have BK479:=n6_
 have HB:=n7_
 clear n0_ n1_ n2_ n3_ n4_ n5_ n6_ n7_
 (try clear hb)
 obtain ⟨Ao69,co69,eo69⟩:=Kd.R_slice HO489.out
 (first|subst eo69|(injection eo69 with f1_ f2_ f3_;have f4_:=f1_.symm;have f5_:=f3_.symm;clear f1_ f2_ f3_;subst f4_;subst f5_))
 refine hK.out _ _ ⟨(blk_cell BK477.out 0).trans rfl,(blk_cell BK477.out 1).trans rfl,(blk_cell BK478.out 0).trans rfl,(blk_cell BK478.out 1).trans rfl⟩ (fun hHeld=> ?_)
 clear hK K
 refine norm_ (a':=?_) ?_ ?_
 rotate_left
 {
 show Act.put _ (some 73) _=_
 simp only [Act.put,List.setIfInBounds_toArray,List.set_cons_zero,List.set_cons_succ,i64_w,i32_w]
 rfl
 }
 refine one_ (i:=24) (N:=some 75) #[true,true,true,true,true,true,true,true,true,true,true,true,true,true,true,true,true,true,true,true,true,true,true,true,true,false,false,false,false] rfl rfl (one_of HT_.out (by kernel_rfl)) (by decide) (fun K hK=> ?_)
 refine goes_ Tryd.func16 (by kernel_rfl) rfl #[.slice Ao69 t487.length co69] (by rfl) rfl rfl ml_ ?_
 with_reducible refine (patch_Size.calls kj5 _ _ t487 t505 _ ?side1 ?side2 A43.out).mono ?_
 (case side1=>repeat (first|exact (Kd.R_reads' HO489.out).2.2|(with_reducible refine Kd.C_alloc ?_ _)|(with_reducible refine Kd.C_drewN ?_ _)|(with_reducible refine Kd.C_drew ?_)))
 (case side2=>exact (Kd.R_reads' HO489.out).2.1)
 rintro e w70 ⟨rfl,hb⟩
 refine ⟨_,rfl,?_⟩
 have n0_:=Aside0.mk (Kd.R_below (xR_ HO485) hb)
 have n1_:=Aside0.mk (Kd.R_below (xR_ HO489) hb)
 have n2_:=Aside0.mk (Kd.R_below (xR_ HO493) hb)
 have n3_:=Aside0.mk (Kd.R_below (xR_ HO497) hb)
 have n4_:=Aside0.mk (bb_ BK477 hb)
 have n5_:=Aside0.mk (bb_ BK478 hb)
 have n6_:=Aside0.mk (bb_ BK479 hb)
 have n7_:=Aside0.mk (below_step b0_ hb)
 clear HO485
 clear HO489
 clear HO493
 clear HO497
 clear BK477
 clear BK478
 clear BK479
 clear HB
 have HO485:=n0_
 have HO489:=n1_
 have HO493:=n2_
 have HO497:=n3_
 have BK477:=n4_
 have BK478:=n5_
 have BK479:=n6_
 have HB:=n7_
 clear n0_ n1_ n2_ n3_ n4_ n5_ n6_ n7_
 (try clear hb)
 refine hK.out _ _ ⟨(blk_cell BK477.out 0).trans rfl,(blk_cell BK477.out 1).trans rfl,(blk_cell BK478.out 0).trans rfl,(blk_cell BK478.out 1).trans rfl⟩ (fun hHeld=> ?_)
 clear hK K
 refine norm_ (a':=?_) ?_ ?_
 rotate_left
 {
 show Act.put _ (some 75) _=_
 simp only [Act.put,List.setIfInBounds_toArray,List.set_cons_zero,List.set_cons_succ,i64_w,i32_w]
 rfl
 }
 refine pA_ (i:=25) (N:=some 76) HT_ ?_
 refine pA_ (i:=26) (N:=some 77) HT_ ?_
 refine pA_ (i:=27) (N:=some 78) HT_ ?_
 refine pA_ (i:=28) (N:=some 6) HT_ ?_
 refine done_ (done_of HT_.out (by kernel_rfl)) ?_
 try go_wp2
 go_ret
 exact ⟨by first|rfl|((try rw [←Option.some.inj (A4.out.symm.trans A11.out)]);(try rw [←Option.some.inj (A4.out.symm.trans A13.out)]);(try rw [←Option.some.inj (A4.out.symm.trans A30.out)]);(try rw [←Option.some.inj (A4.out.symm.trans A31.out)]);(try rw [←Option.some.inj (A4.out.symm.trans A32.out)]);(try rw [←Option.some.inj (A4.out.symm.trans A33.out)]);(try rw [←Option.some.inj (A4.out.symm.trans A35.out)]);(try rw [←Option.some.inj (A4.out.symm.trans A36.out)]);(try rw [←Option.some.inj (A4.out.symm.trans A38.out)]);(try rw [←Option.some.inj (A4.out.symm.trans A39.out)]);(try rw [←Option.some.inj (A4.out.symm.trans A41.out)]);(try rw [←Option.some.inj (A4.out.symm.trans A42.out)]);(try rw [←Option.some.inj (A4.out.symm.trans A43.out)]);(try rw [←Option.some.inj (A11.out.symm.trans A13.out)]);(try rw [←Option.some.inj (A11.out.symm.trans A30.out)]);(try rw [←Option.some.inj (A11.out.symm.trans A31.out)]);(try rw [←Option.some.inj (A11.out.symm.trans A32.out)]);(try rw [←Option.some.inj (A11.out.symm.trans A33.out)]);(try rw [←Option.some.inj (A11.out.symm.trans A35.out)]);(try rw [←Option.some.inj (A11.out.symm.trans A36.out)]);(try rw [←Option.some.inj (A11.out.symm.trans A38.out)]);(try rw [←Option.some.inj (A11.out.symm.trans A39.out)]);(try rw [←Option.some.inj (A11.out.symm.trans A41.out)]);(try rw [←Option.some.inj (A11.out.symm.trans A42.out)]);(try rw [←Option.some.inj (A11.out.symm.trans A43.out)]);(try rw [←Option.some.inj (A13.out.symm.trans A30.out)]);(try rw [←Option.some.inj (A13.out.symm.trans A31.out)]);(try rw [←Option.some.inj (A13.out.symm.trans A32.out)]);(try rw [←Option.some.inj (A13.out.symm.trans A33.out)]);(try rw [←Option.some.inj (A13.out.symm.trans A35.out)]);(try rw [←Option.some.inj (A13.out.symm.trans A36.out)]);(try rw [←Option.some.inj (A13.out.symm.trans A38.out)]);(try rw [←Option.some.inj (A13.out.symm.trans A39.out)]);(try rw [←Option.some.inj (A13.out.symm.trans A41.out)]);(try rw [←Option.some.inj (A13.out.symm.trans A42.out)]);(try rw [←Option.some.inj (A13.out.symm.trans A43.out)]);(try rw [←Option.some.inj (A30.out.symm.trans A31.out)]);(try rw [←Option.some.inj (A30.out.symm.trans A32.out)]);(try rw [←Option.some.inj (A30.out.symm.trans A33.out)]);(try rw [←Option.some.inj (A30.out.symm.trans A35.out)]);(try rw [←Option.some.inj (A30.out.symm.trans A36.out)]);(try rw [←Option.some.inj (A30.out.symm.trans A38.out)]);(try rw [←Option.some.inj (A30.out.symm.trans A39.out)]);(try rw [←Option.some.inj (A30.out.symm.trans A41.out)]);(try rw [←Option.some.inj (A30.out.symm.trans A42.out)]);(try rw [←Option.some.inj (A30.out.symm.trans A43.out)]);(try rw [←Option.some.inj (A31.out.symm.trans A32.out)]);(try rw [←Option.some.inj (A31.out.symm.trans A33.out)]);(try rw [←Option.some.inj (A31.out.symm.trans A35.out)]);(try rw [←Option.some.inj (A31.out.symm.trans A36.out)]);(try rw [←Option.some.inj (A31.out.symm.trans A38.out)]);(try rw [←Option.some.inj (A31.out.symm.trans A39.out)]);(try rw [←Option.some.inj (A31.out.symm.trans A41.out)]);(try rw [←Option.some.inj (A31.out.symm.trans A42.out)]);(try rw [←Option.some.inj (A31.out.symm.trans A43.out)]);(try rw [←Option.some.inj (A32.out.symm.trans A33.out)]);(try rw [←Option.some.inj (A32.out.symm.trans A35.out)]);(try rw [←Option.some.inj (A32.out.symm.trans A36.out)]);(try rw [←Option.some.inj (A32.out.symm.trans A38.out)]);(try rw [←Option.some.inj (A32.out.symm.trans A39.out)]);(try rw [←Option.some.inj (A32.out.symm.trans A41.out)]);(try rw [←Option.some.inj (A32.out.symm.trans A42.out)]);(try rw [←Option.some.inj (A32.out.symm.trans A43.out)]);(try rw [←Option.some.inj (A33.out.symm.trans A35.out)]);(try rw [←Option.some.inj (A33.out.symm.trans A36.out)]);(try rw [←Option.some.inj (A33.out.symm.trans A38.out)]);(try rw [←Option.some.inj (A33.out.symm.trans A39.out)]);(try rw [←Option.some.inj (A33.out.symm.trans A41.out)]);(try rw [←Option.some.inj (A33.out.symm.trans A42.out)]);(try rw [←Option.some.inj (A33.out.symm.trans A43.out)]);(try rw [←Option.some.inj (A35.out.symm.trans A36.out)]);(try rw [←Option.some.inj (A35.out.symm.trans A38.out)]);(try rw [←Option.some.inj (A35.out.symm.trans A39.out)]);(try rw [←Option.some.inj (A35.out.symm.trans A41.out)]);(try rw [←Option.some.inj (A35.out.symm.trans A42.out)]);(try rw [←Option.some.inj (A35.out.symm.trans A43.out)]);(try rw [←Option.some.inj (A36.out.symm.trans A38.out)]);(try rw [←Option.some.inj (A36.out.symm.trans A39.out)]);(try rw [←Option.some.inj (A36.out.symm.trans A41.out)]);(try rw [←Option.some.inj (A36.out.symm.trans A42.out)]);(try rw [←Option.some.inj (A36.out.symm.trans A43.out)]);(try rw [←Option.some.inj (A38.out.symm.trans A39.out)]);(try rw [←Option.some.inj (A38.out.symm.trans A41.out)]);(try rw [←Option.some.inj (A38.out.symm.trans A42.out)]);(try rw [←Option.some.inj (A38.out.symm.trans A43.out)]);(try rw [←Option.some.inj (A39.out.symm.trans A41.out)]);(try rw [←Option.some.inj (A39.out.symm.trans A42.out)]);(try rw [←Option.some.inj (A39.out.symm.trans A43.out)]);(try rw [←Option.some.inj (A41.out.symm.trans A42.out)]);(try rw [←Option.some.inj (A41.out.symm.trans A43.out)]);(try rw [←Option.some.inj (A42.out.symm.trans A43.out)]);rfl)|(simp [errW_none,errW_some]<;>rfl)|(simp [*,errW_none,errW_some]<;>rfl),b0_⟩
 }
 {
 rw [if_neg c40] at H
 have c40b0:((t501==0)==t502)=false:=by simpa using c40
 (try (have c40b1:decide ((t501==0)=t502)=false:=by simpa using c40))
 (try (have c40b2:((t501==0)==t502)=false:=by simpa using c40))
 (try (have c40b3: ¬ ((t501==0)=t502):=by simpa using c40))
 clear c40
 exact absurd H (by simp)
 }
 }
 {
 rw [if_neg c37] at H
 have c37b0:(t499==t500)=false:=beq_eq_false_iff_ne.mpr c37
 have c37b1:(t499 !=t500)=true:=bne_iff_ne.mpr c37
 exact absurd H (by simp)
 }
 }
 {
 rw [if_neg c34] at H
 have c34b0:(t498==0)=false:=beq_eq_false_iff_ne.mpr c34
 have c34b1:(t498 !=0)=true:=bne_iff_ne.mpr c34
 exact absurd H (by simp)
 }
 }
  )
  )
 }
 {
 replace c5:=Bool.eq_false_iff.mpr c5
 subst c5
 replace H:=fn_ H
 exact absurd H (by simp)
 }
end
end Go.Proofs.YtdlolaognnbhpaaDoor.Pr
