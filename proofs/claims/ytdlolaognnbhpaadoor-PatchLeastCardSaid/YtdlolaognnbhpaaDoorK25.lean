/- A part of the proof of laws of this seat: PatchLeast. Conditions: none of our own. -/
import Derived.Test.YtdlolaognnbhpaaDoorK15
namespace Go.Proofs.YtdlolaognnbhpaaDoor.Pr
open Go.RowKit Go.Proofs.YtdlolaognnbhpaaDoorW.PrintWords Go.Proofs.YtdlolaognnbhpaaDoorW.PrintLast Go.Proofs.YtdlolaognnbhpaaDoorW.PrintMore
noncomputable section
attribute [local go_sem] max2_int min2_int max_two min_two max_three min_three max_four min_four
set_option linter.unusedVariables false
set_option linter.unusedSimpArgs false
def bookplateref18_Few.l0:Nat→List (S60)→Int→Option (Bool)
 |0,_,_=>none
 |k+1,x0,x3=>if x3<(x0.length:Int) then (if 0≤x3 then (if (((rd_T60 x0 x3).f1).length:Int)>10 then (some false) else (if (((rd_T60 x0 x3).f2).length:Int)>62 then (some false) else ((bookplateref12_Few.f k 0 ((rd_T60 x0 x3).f1) 10).bind fun t441=>(if t441=true then ((bookplateref12_Few.f k 0 ((rd_T60 x0 x3).f2) 62).bind fun t443=>(if t443=true then (bookplateref18_Few.l0 k x0 (wrap64 (x3+1))) else (some false))) else (some false))))) else (none)) else (some (decide ((x0.length:Int)≤8)))
def bookplateref18_Few.f (k:Nat) (l0:List (S60)):Option (Bool):=bookplateref18_Few.l0 k l0 0
set_option maxHeartbeats 8000000 in
set_option maxRecDepth 100000 in
theorem bookplateref18_Few.calls (k:Nat) (A0:Option Addr) (c0:Nat) (l0:List (S60)) (r:Bool) (w:World) (hr0:Kd.C k60 w A0 l0.length l0) (hc0:l0.length≤c0) (h:bookplateref18_Few.f k l0=some r):
 Calls Tryd.prog 13 #[.slice A0 l0.length c0] w fun e w'=>e= .returned (.bool r)∧Below w.heap.size w w':=by
 have hu24:=Tryd.underlying24
 have HR0:=Aside0.mk hr0
 have HC0:=Aside0.mk hc0
 clear hr0 hc0
 have HB:=Aside0.mk (Below.refl w.heap.size w)
 have H:(bookplateref18_Few.l0 k l0 0)=some r:=h
 clear h
 have H':=Aside0.mk H
 clear H
 go_enter Tryd.func13,Tryd.ntmps13
 go_wp2
 go_loopg [3] k (fun kq v3 w'=>∃ (x3_1:Int),v3= .int .i64 x3_1∧Aside0 (bookplateref18_Few.l0 kq l0 x3_1=some r)∧Aside0 (kq≤k)∧Aside0 (Below w.heap.size w w'))
 case atStart=>exact ⟨(0),r0_,H',⟨Nat.le_refl _⟩,⟨b0_⟩⟩
 case round=>
  (
 clear H'
 try clear c1
 obtain ⟨x3_1,rfl,HA,HK1,HB⟩:=hrel
 cases gk with
 |zero=>exact absurd HA.out (by simp [bookplateref18_Few.l0])
 |succ k1=>
  (
 have H:=HA.out
 clear HA
 simp only [bookplateref18_Few.l0] at H
 by_cases c2:x3_1<(l0.length:Int)
 {
 rw [if_pos c2] at H
 have c2b0:decide (x3_1<(l0.length:Int))=true:=decide_eq_true c2
 clear c2
 by_cases c3:0≤x3_1
 {
 rw [if_pos c3] at H
 have c3b0:decide (0≤x3_1)=true:=decide_eq_true c3
 clear c3
 by_cases c4:(((rd_T60 l0 x3_1).f1).length:Int)>10
 {
 rw [if_pos c4] at H
 have c4b0:decide (10<(((rd_T60 l0 x3_1).f1).length:Int))=true:=decide_eq_true c4
 have c4b1:decide (10<((rd_T60 l0 x3_1).f1).length)=true:=decide_eq_true (by omega)
 clear c4
 obtain rfl:=Option.some.inj H
 have p438:0≤(x3_1:Int):=od_
 have q438:x3_1<(l0.length:Int):=od_
 obtain ⟨ad438,A438_1,c438_1,A438_2,c438_2,e438,hx438_0,hx438_1,hx438_2,hl438_1,hi438_1,hl438_2,hi438_2⟩:=at_T60 HR0.out x3_1 p438 q438
 cases e438
 replace hx438_0:=cel_ HB hx438_0
 replace hx438_1:=cel_ HB hx438_1
 replace hx438_2:=cel_ HB hx438_2
 have HR438_1:=Aside0.mk hi438_1
 have HC438_1:=Aside0.mk hl438_1
 clear hi438_1 hl438_1
 have HR438_2:=Aside0.mk hi438_2
 have HC438_2:=Aside0.mk hl438_2
 clear hi438_2 hl438_2
 replace p438:=eq_true p438
 replace q438:=eq_true q438
 go_wp2
 go_ret
 exact ⟨r1_,b0_⟩
 }
 {
 rw [if_neg c4] at H
 have c4b0:decide (10<(((rd_T60 l0 x3_1).f1).length:Int))=false:=decide_eq_false c4
 have c4b1:decide (10<((rd_T60 l0 x3_1).f1).length)=false:=decide_eq_false (by omega)
 clear c4
 by_cases c5:(((rd_T60 l0 x3_1).f2).length:Int)>62
 {
 rw [if_pos c5] at H
 have c5b0:decide (62<(((rd_T60 l0 x3_1).f2).length:Int))=true:=decide_eq_true c5
 have c5b1:decide (62<((rd_T60 l0 x3_1).f2).length)=true:=decide_eq_true (by omega)
 clear c5
 obtain rfl:=Option.some.inj H
 have p438:0≤(x3_1:Int):=od_
 have q438:x3_1<(l0.length:Int):=od_
 obtain ⟨ad438,A438_1,c438_1,A438_2,c438_2,e438,hx438_0,hx438_1,hx438_2,hl438_1,hi438_1,hl438_2,hi438_2⟩:=at_T60 HR0.out x3_1 p438 q438
 cases e438
 replace hx438_0:=cel_ HB hx438_0
 replace hx438_1:=cel_ HB hx438_1
 replace hx438_2:=cel_ HB hx438_2
 have HR438_1:=Aside0.mk hi438_1
 have HC438_1:=Aside0.mk hl438_1
 clear hi438_1 hl438_1
 have HR438_2:=Aside0.mk hi438_2
 have HC438_2:=Aside0.mk hl438_2
 clear hi438_2 hl438_2
 replace p438:=eq_true p438
 replace q438:=eq_true q438
 have p439:0≤(x3_1:Int):=od_
 have q439:x3_1<(l0.length:Int):=od_
 obtain ⟨ad439,A439_1,c439_1,A439_2,c439_2,e439,hx439_0,hx439_1,hx439_2,hl439_1,hi439_1,hl439_2,hi439_2⟩:=at_T60 HR0.out x3_1 p439 q439
 obtain rfl:ad438=ad439:=(by injection e439)
 replace hx439_0:=cel_ HB hx439_0
 replace hx439_1:=cel_ HB hx439_1
 replace hx439_2:=cel_ HB hx439_2
 have HR439_1:=Aside0.mk hi439_1
 have HC439_1:=Aside0.mk hl439_1
 clear hi439_1 hl439_1
 have HR439_2:=Aside0.mk hi439_2
 have HC439_2:=Aside0.mk hl439_2
 clear hi439_2 hl439_2
 replace p439:=eq_true p439
 replace q439:=eq_true q439
 have ea_:=Option.some.inj (hx438_1.symm.trans hx439_1)
 injection ea_ with ea_ en_ ec_
 subst ea_
 subst ec_
 clear en_
 have ea_:=Option.some.inj (hx438_2.symm.trans hx439_2)
 injection ea_ with ea_ en_ ec_
 subst ea_
 subst ec_
 clear en_
 go_wp2
 go_ret
 exact ⟨r1_,b0_⟩
 }
 {
 rw [if_neg c5] at H
 have c5b0:decide (62<(((rd_T60 l0 x3_1).f2).length:Int))=false:=decide_eq_false c5
 have c5b1:decide (62<((rd_T60 l0 x3_1).f2).length)=false:=decide_eq_false (by omega)
 clear c5
 obtain ⟨t441,A6,H⟩:=ob_ H
 by_cases c7:t441=true
 {
 subst c7
 replace H:=tp_ H
 obtain ⟨t443,A8,H⟩:=ob_ H
 by_cases c9:t443=true
 {
 subst c9
 replace H:=tp_ H
 have H':=Aside0.mk H
 clear H
 have p438:0≤(x3_1:Int):=od_
 have q438:x3_1<(l0.length:Int):=od_
 obtain ⟨ad438,A438_1,c438_1,A438_2,c438_2,e438,hx438_0,hx438_1,hx438_2,hl438_1,hi438_1,hl438_2,hi438_2⟩:=at_T60 HR0.out x3_1 p438 q438
 cases e438
 replace hx438_0:=cel_ HB hx438_0
 replace hx438_1:=cel_ HB hx438_1
 replace hx438_2:=cel_ HB hx438_2
 have HR438_1:=Aside0.mk hi438_1
 have HC438_1:=Aside0.mk hl438_1
 clear hi438_1 hl438_1
 have HR438_2:=Aside0.mk hi438_2
 have HC438_2:=Aside0.mk hl438_2
 clear hi438_2 hl438_2
 replace p438:=eq_true p438
 replace q438:=eq_true q438
 have p439:0≤(x3_1:Int):=od_
 have q439:x3_1<(l0.length:Int):=od_
 obtain ⟨ad439,A439_1,c439_1,A439_2,c439_2,e439,hx439_0,hx439_1,hx439_2,hl439_1,hi439_1,hl439_2,hi439_2⟩:=at_T60 HR0.out x3_1 p439 q439
 obtain rfl:ad438=ad439:=(by injection e439)
 replace hx439_0:=cel_ HB hx439_0
 replace hx439_1:=cel_ HB hx439_1
 replace hx439_2:=cel_ HB hx439_2
 have HR439_1:=Aside0.mk hi439_1
 have HC439_1:=Aside0.mk hl439_1
 clear hi439_1 hl439_1
 have HR439_2:=Aside0.mk hi439_2
 have HC439_2:=Aside0.mk hl439_2
 clear hi439_2 hl439_2
 replace p439:=eq_true p439
 replace q439:=eq_true q439
 have ea_:=Option.some.inj (hx438_1.symm.trans hx439_1)
 injection ea_ with ea_ en_ ec_
 subst ea_
 subst ec_
 clear en_
 have ea_:=Option.some.inj (hx438_2.symm.trans hx439_2)
 injection ea_ with ea_ en_ ec_
 subst ea_
 subst ec_
 clear en_
 have p440:0≤(x3_1:Int):=od_
 have q440:x3_1<(l0.length:Int):=od_
 obtain ⟨ad440,A440_1,c440_1,A440_2,c440_2,e440,hx440_0,hx440_1,hx440_2,hl440_1,hi440_1,hl440_2,hi440_2⟩:=at_T60 HR0.out x3_1 p440 q440
 obtain rfl:ad438=ad440:=(by injection e440)
 replace hx440_0:=cel_ HB hx440_0
 replace hx440_1:=cel_ HB hx440_1
 replace hx440_2:=cel_ HB hx440_2
 have HR440_1:=Aside0.mk hi440_1
 have HC440_1:=Aside0.mk hl440_1
 clear hi440_1 hl440_1
 have HR440_2:=Aside0.mk hi440_2
 have HC440_2:=Aside0.mk hl440_2
 clear hi440_2 hl440_2
 replace p440:=eq_true p440
 replace q440:=eq_true q440
 have ea_:=Option.some.inj (hx438_1.symm.trans hx440_1)
 injection ea_ with ea_ en_ ec_
 subst ea_
 subst ec_
 clear en_
 have ea_:=Option.some.inj (hx438_2.symm.trans hx440_2)
 injection ea_ with ea_ en_ ec_
 subst ea_
 subst ec_
 clear en_
 go_wp2_with (first|(go_at_call 8;(with_reducible refine (bookplateref12_Few.calls k1 0 _ _ ((rd_T60 l0 x3_1).f1) 10 true _ ?side1 ?side2 A6.out).mono ?_);(case side1=>exact c0_);(case side2=>exact HC440_1.out);rintro e w10 ⟨rfl,hb⟩;have n0_:=Aside0.mk (below_step b0_ hb);clear HB;have HB:=n0_;clear n0_;(try clear hb);have p442:0≤(x3_1:Int):=od_;have q442:x3_1<(l0.length:Int):=od_;obtain ⟨ad442,A442_1,c442_1,A442_2,c442_2,e442,hx442_0,hx442_1,hx442_2,hl442_1,hi442_1,hl442_2,hi442_2⟩:=at_T60 HR0.out x3_1 p442 q442;obtain rfl:ad438=ad442:=(by injection e442);replace hx442_0:=cel_ HB hx442_0;replace hx442_1:=cel_ HB hx442_1;replace hx442_2:=cel_ HB hx442_2;have HR442_1:=Aside0.mk hi442_1;have HC442_1:=Aside0.mk hl442_1;clear hi442_1 hl442_1;have HR442_2:=Aside0.mk hi442_2;have HC442_2:=Aside0.mk hl442_2;clear hi442_2 hl442_2;replace p442:=eq_true p442;replace q442:=eq_true q442)|(go_at_call 8;(with_reducible refine (bookplateref12_Few.calls k1 0 _ _ ((rd_T60 l0 x3_1).f2) 62 true _ ?side1 ?side2 A8.out).mono ?_);(case side1=>exact c0_);(case side2=>exact HC442_2.out);rintro e w11 ⟨rfl,hb⟩;have n0_:=Aside0.mk (below_step b0_ hb);clear HB;have HB:=n0_;clear n0_;(try clear hb)))
 go_roundg k1
 case measure=>have:=HK1.out;omega
 case rel=>exact ⟨(wrap64 (x3_1+1)),r0_,H',⟨by have:=HK1.out;omega⟩,⟨b0_⟩⟩
 }
 {
 replace c9:=Bool.eq_false_iff.mpr c9
 subst c9
 replace H:=fn_ H
 obtain rfl:=Option.some.inj H
 have p438:0≤(x3_1:Int):=od_
 have q438:x3_1<(l0.length:Int):=od_
 obtain ⟨ad438,A438_1,c438_1,A438_2,c438_2,e438,hx438_0,hx438_1,hx438_2,hl438_1,hi438_1,hl438_2,hi438_2⟩:=at_T60 HR0.out x3_1 p438 q438
 cases e438
 replace hx438_0:=cel_ HB hx438_0
 replace hx438_1:=cel_ HB hx438_1
 replace hx438_2:=cel_ HB hx438_2
 have HR438_1:=Aside0.mk hi438_1
 have HC438_1:=Aside0.mk hl438_1
 clear hi438_1 hl438_1
 have HR438_2:=Aside0.mk hi438_2
 have HC438_2:=Aside0.mk hl438_2
 clear hi438_2 hl438_2
 replace p438:=eq_true p438
 replace q438:=eq_true q438
 have p439:0≤(x3_1:Int):=od_
 have q439:x3_1<(l0.length:Int):=od_
 obtain ⟨ad439,A439_1,c439_1,A439_2,c439_2,e439,hx439_0,hx439_1,hx439_2,hl439_1,hi439_1,hl439_2,hi439_2⟩:=at_T60 HR0.out x3_1 p439 q439
 obtain rfl:ad438=ad439:=(by injection e439)
 replace hx439_0:=cel_ HB hx439_0
 replace hx439_1:=cel_ HB hx439_1
 replace hx439_2:=cel_ HB hx439_2
 have HR439_1:=Aside0.mk hi439_1
 have HC439_1:=Aside0.mk hl439_1
 clear hi439_1 hl439_1
 have HR439_2:=Aside0.mk hi439_2
 have HC439_2:=Aside0.mk hl439_2
 clear hi439_2 hl439_2
 replace p439:=eq_true p439
 replace q439:=eq_true q439
 have ea_:=Option.some.inj (hx438_1.symm.trans hx439_1)
 injection ea_ with ea_ en_ ec_
 subst ea_
 subst ec_
 clear en_
 have ea_:=Option.some.inj (hx438_2.symm.trans hx439_2)
 injection ea_ with ea_ en_ ec_
 subst ea_
 subst ec_
 clear en_
 have p440:0≤(x3_1:Int):=od_
 have q440:x3_1<(l0.length:Int):=od_
 obtain ⟨ad440,A440_1,c440_1,A440_2,c440_2,e440,hx440_0,hx440_1,hx440_2,hl440_1,hi440_1,hl440_2,hi440_2⟩:=at_T60 HR0.out x3_1 p440 q440
 obtain rfl:ad438=ad440:=(by injection e440)
 replace hx440_0:=cel_ HB hx440_0
 replace hx440_1:=cel_ HB hx440_1
 replace hx440_2:=cel_ HB hx440_2
 have HR440_1:=Aside0.mk hi440_1
 have HC440_1:=Aside0.mk hl440_1
 clear hi440_1 hl440_1
 have HR440_2:=Aside0.mk hi440_2
 have HC440_2:=Aside0.mk hl440_2
 clear hi440_2 hl440_2
 replace p440:=eq_true p440
 replace q440:=eq_true q440
 have ea_:=Option.some.inj (hx438_1.symm.trans hx440_1)
 injection ea_ with ea_ en_ ec_
 subst ea_
 subst ec_
 clear en_
 have ea_:=Option.some.inj (hx438_2.symm.trans hx440_2)
 injection ea_ with ea_ en_ ec_
 subst ea_
 subst ec_
 clear en_
 go_wp2_with (first|(go_at_call 8;(with_reducible refine (bookplateref12_Few.calls k1 0 _ _ ((rd_T60 l0 x3_1).f1) 10 true _ ?side1 ?side2 A6.out).mono ?_);(case side1=>exact c0_);(case side2=>exact HC440_1.out);rintro e w12 ⟨rfl,hb⟩;have n0_:=Aside0.mk (below_step b0_ hb);clear HB;have HB:=n0_;clear n0_;(try clear hb);have p442:0≤(x3_1:Int):=od_;have q442:x3_1<(l0.length:Int):=od_;obtain ⟨ad442,A442_1,c442_1,A442_2,c442_2,e442,hx442_0,hx442_1,hx442_2,hl442_1,hi442_1,hl442_2,hi442_2⟩:=at_T60 HR0.out x3_1 p442 q442;obtain rfl:ad438=ad442:=(by injection e442);replace hx442_0:=cel_ HB hx442_0;replace hx442_1:=cel_ HB hx442_1;replace hx442_2:=cel_ HB hx442_2;have HR442_1:=Aside0.mk hi442_1;have HC442_1:=Aside0.mk hl442_1;clear hi442_1 hl442_1;have HR442_2:=Aside0.mk hi442_2;have HC442_2:=Aside0.mk hl442_2;clear hi442_2 hl442_2;replace p442:=eq_true p442;replace q442:=eq_true q442)|(go_at_call 8;(with_reducible refine (bookplateref12_Few.calls k1 0 _ _ ((rd_T60 l0 x3_1).f2) 62 false _ ?side1 ?side2 A8.out).mono ?_);(case side1=>exact c0_);(case side2=>exact HC442_2.out);rintro e w13 ⟨rfl,hb⟩;have n0_:=Aside0.mk (below_step b0_ hb);clear HB;have HB:=n0_;clear n0_;(try clear hb)))
 go_ret
 exact ⟨r1_,b0_⟩
 }
 }
 {
 replace c7:=Bool.eq_false_iff.mpr c7
 subst c7
 replace H:=fn_ H
 obtain rfl:=Option.some.inj H
 have p438:0≤(x3_1:Int):=od_
 have q438:x3_1<(l0.length:Int):=od_
 obtain ⟨ad438,A438_1,c438_1,A438_2,c438_2,e438,hx438_0,hx438_1,hx438_2,hl438_1,hi438_1,hl438_2,hi438_2⟩:=at_T60 HR0.out x3_1 p438 q438
 cases e438
 replace hx438_0:=cel_ HB hx438_0
 replace hx438_1:=cel_ HB hx438_1
 replace hx438_2:=cel_ HB hx438_2
 have HR438_1:=Aside0.mk hi438_1
 have HC438_1:=Aside0.mk hl438_1
 clear hi438_1 hl438_1
 have HR438_2:=Aside0.mk hi438_2
 have HC438_2:=Aside0.mk hl438_2
 clear hi438_2 hl438_2
 replace p438:=eq_true p438
 replace q438:=eq_true q438
 have p439:0≤(x3_1:Int):=od_
 have q439:x3_1<(l0.length:Int):=od_
 obtain ⟨ad439,A439_1,c439_1,A439_2,c439_2,e439,hx439_0,hx439_1,hx439_2,hl439_1,hi439_1,hl439_2,hi439_2⟩:=at_T60 HR0.out x3_1 p439 q439
 obtain rfl:ad438=ad439:=(by injection e439)
 replace hx439_0:=cel_ HB hx439_0
 replace hx439_1:=cel_ HB hx439_1
 replace hx439_2:=cel_ HB hx439_2
 have HR439_1:=Aside0.mk hi439_1
 have HC439_1:=Aside0.mk hl439_1
 clear hi439_1 hl439_1
 have HR439_2:=Aside0.mk hi439_2
 have HC439_2:=Aside0.mk hl439_2
 clear hi439_2 hl439_2
 replace p439:=eq_true p439
 replace q439:=eq_true q439
 have ea_:=Option.some.inj (hx438_1.symm.trans hx439_1)
 injection ea_ with ea_ en_ ec_
 subst ea_
 subst ec_
 clear en_
 have ea_:=Option.some.inj (hx438_2.symm.trans hx439_2)
 injection ea_ with ea_ en_ ec_
 subst ea_
 subst ec_
 clear en_
 have p440:0≤(x3_1:Int):=od_
 have q440:x3_1<(l0.length:Int):=od_
 obtain ⟨ad440,A440_1,c440_1,A440_2,c440_2,e440,hx440_0,hx440_1,hx440_2,hl440_1,hi440_1,hl440_2,hi440_2⟩:=at_T60 HR0.out x3_1 p440 q440
 obtain rfl:ad438=ad440:=(by injection e440)
 replace hx440_0:=cel_ HB hx440_0
 replace hx440_1:=cel_ HB hx440_1
 replace hx440_2:=cel_ HB hx440_2
 have HR440_1:=Aside0.mk hi440_1
 have HC440_1:=Aside0.mk hl440_1
 clear hi440_1 hl440_1
 have HR440_2:=Aside0.mk hi440_2
 have HC440_2:=Aside0.mk hl440_2
 clear hi440_2 hl440_2
 replace p440:=eq_true p440
 replace q440:=eq_true q440
 have ea_:=Option.some.inj (hx438_1.symm.trans hx440_1)
 injection ea_ with ea_ en_ ec_
 subst ea_
 subst ec_
 clear en_
 have ea_:=Option.some.inj (hx438_2.symm.trans hx440_2)
 injection ea_ with ea_ en_ ec_
 subst ea_
 subst ec_
 clear en_
 go_wp2_with (first|(go_at_call 8;(with_reducible refine (bookplateref12_Few.calls k1 0 _ _ ((rd_T60 l0 x3_1).f1) 10 false _ ?side1 ?side2 A6.out).mono ?_);(case side1=>exact c0_);(case side2=>exact HC440_1.out);rintro e w14 ⟨rfl,hb⟩;have n0_:=Aside0.mk (below_step b0_ hb);clear HB;have HB:=n0_;clear n0_;(try clear hb)))
 go_ret
 exact ⟨r1_,b0_⟩
 }
 }
 }
 }
 {
 rw [if_neg c3] at H
 exact absurd H (by simp)
 }
 }
 {
 rw [if_neg c2] at H
 have c2b0:decide (x3_1<(l0.length:Int))=false:=decide_eq_false c2
 clear c2
 obtain rfl:=Option.some.inj H
 go_wp2
 go_ret
 exact ⟨r1_,b0_⟩
 }
  )
  )
end
end Go.Proofs.YtdlolaognnbhpaaDoor.Pr
