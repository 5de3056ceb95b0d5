/- A part of the proof of laws of this seat: PatchBack, PatchDiff, PatchLeast, PatchMetric. Conditions: none of our own. -/
import Derived.Test.YtdlolaognnbhpaaDoorK6
namespace Go.Proofs.YtdlolaognnbhpaaDoor.Pr
open Go.RowKit Go.Proofs.YtdlolaognnbhpaaDoorW.PrintWords Go.Proofs.YtdlolaognnbhpaaDoorW.PrintLast Go.Proofs.YtdlolaognnbhpaaDoorW.PrintMore
noncomputable section
attribute [local go_sem] max2_int min2_int max_two min_two max_three min_three max_four min_four
set_option linter.unusedVariables false
set_option linter.unusedSimpArgs false
def repertoire_mark.j0:Nat→Int→Int→Bool→Option (Bool)
 |0,_,_,_=>none
 |k+1,x0,x3,x4=>if x4=true then (some false) else (if x3=803 then (some true) else (if x3=807 then (some true) else (if x3=808 then (some true) else ((repertoire_from.f x0 768 780).bind fun t153=>(some t153)))))
def repertoire_mark.f (k:Nat) (a0:Int):Option (Bool):=if a0=773 then (repertoire_mark.j0 k a0 a0 (a0==773)) else (repertoire_mark.j0 k a0 a0 (a0==777))
set_option maxHeartbeats 8000000 in
set_option maxRecDepth 100000 in
theorem repertoire_mark.calls (k:Nat) (a0:Int) (r:Bool) (w:World) (h:repertoire_mark.f k a0=some r):
 Calls Tryd.prog 85 #[.int .i64 a0] w fun e w'=>e= .returned (.bool r)∧Drawn0 w w':=by
 have H:(if a0=773 then (repertoire_mark.j0 k a0 a0 (a0==773)) else (repertoire_mark.j0 k a0 a0 (a0==777)))=some r:=h
 clear h
 have HC2:=Aside0.mk H
 clear H
 go_enter Tryd.func85,Tryd.ntmps85
 go_upto_if 4 with (fail)
 go_cut [4] (fun v4 wc=>∃ (kq:Nat) (x4_1:Bool),v4= .bool x4_1∧Aside0 (repertoire_mark.j0 kq a0 a0 x4_1=some r)∧Aside0 (kq≤k)∧Drawn0 w wc)
 case first=>
  (
 have H:=HC2.out
 clear HC2
 by_cases c3:a0=773
 {
 rw [if_pos c3] at H
 have c3b0:(a0==773)=true:=beq_iff_eq.mpr c3
 have c3b1:(a0 !=773)=false:=bne_eq_false_iff_eq.mpr c3
 clear c3
 (first|rw [c3b0]|(simp only [i64_w,i32_w];rw [c3b0])|skip)
 have H':=Aside0.mk H
 clear H
 go_wp2
 go_meet
 case rel=>exact ⟨_,((a0==773)),r0_,H',⟨by first|omega|exact Nat.le_refl _⟩,d0_⟩
 }
 {
 rw [if_neg c3] at H
 have c3b0:(a0==773)=false:=beq_eq_false_iff_ne.mpr c3
 have c3b1:(a0 !=773)=true:=bne_iff_ne.mpr c3
 (first|rw [c3b0]|(simp only [i64_w,i32_w];rw [c3b0])|skip)
 have H':=Aside0.mk H
 clear H
 go_wp2
 go_meet
 case rel=>exact ⟨_,((a0==777)),r0_,H',⟨by first|omega|exact Nat.le_refl _⟩,d0_⟩
 }
  )
 case rest=>
  (
 clear HC2
 try clear p2
 try clear c3
 try clear c3b0
 try clear c3b1
 obtain ⟨kq,x4_1,rfl,HA,HJ1,⟨mc1,rfl⟩⟩:=hcut
 cases kq with
 |zero=>exact absurd HA.out (by simp [repertoire_mark.j0])
 |succ kj1=>
  (
 have H:=HA.out
 clear HA
 simp only [repertoire_mark.j0] at H
 by_cases c4:x4_1=true
 {
 subst c4
 replace H:=tp_ H
 obtain rfl:=Option.some.inj H
 go_wp2
 go_ret
 exact ⟨r0_,d0_⟩
 }
 {
 replace c4:=Bool.eq_false_iff.mpr c4
 subst c4
 replace H:=fn_ H
 by_cases c5:a0=803
 {
 rw [if_pos c5] at H
 have c5b0:(a0==803)=true:=beq_iff_eq.mpr c5
 have c5b1:(a0 !=803)=false:=bne_eq_false_iff_eq.mpr c5
 clear c5
 obtain rfl:=Option.some.inj H
 go_wp2
 go_ret
 exact ⟨r0_,d0_⟩
 }
 {
 rw [if_neg c5] at H
 have c5b0:(a0==803)=false:=beq_eq_false_iff_ne.mpr c5
 have c5b1:(a0 !=803)=true:=bne_iff_ne.mpr c5
 by_cases c6:a0=807
 {
 rw [if_pos c6] at H
 have c6b0:(a0==807)=true:=beq_iff_eq.mpr c6
 have c6b1:(a0 !=807)=false:=bne_eq_false_iff_eq.mpr c6
 clear c6
 obtain rfl:=Option.some.inj H
 go_wp2
 go_ret
 exact ⟨r0_,d0_⟩
 }
 {
 rw [if_neg c6] at H
 have c6b0:(a0==807)=false:=beq_eq_false_iff_ne.mpr c6
 have c6b1:(a0 !=807)=true:=bne_iff_ne.mpr c6
 by_cases c7:a0=808
 {
 rw [if_pos c7] at H
 have c7b0:(a0==808)=true:=beq_iff_eq.mpr c7
 have c7b1:(a0 !=808)=false:=bne_eq_false_iff_eq.mpr c7
 clear c7
 obtain rfl:=Option.some.inj H
 go_wp2
 go_ret
 exact ⟨r0_,d0_⟩
 }
 {
 rw [if_neg c7] at H
 have c7b0:(a0==808)=false:=beq_eq_false_iff_ne.mpr c7
 have c7b1:(a0 !=808)=true:=bne_iff_ne.mpr c7
 obtain ⟨t153,A8,H⟩:=ob_ H
 obtain rfl:=Option.some.inj H
 go_wp2_with (first|((with_reducible refine gate_callee (f:=83) rfl ?_);refine gl_ (some 12) Tryd.func83 #[.int .i64 a0,.int .i64 768,.int .i64 780] ?_;(with_reducible refine (repertoire_from.calls a0 768 780 t153 _ A8.out).mono ?_);rintro e w' ⟨rfl,⟨nd,rfl⟩⟩;refine ⟨_,rfl,?_⟩))
 go_ret
 exact ⟨r0_,d0_⟩
 }
 }
 }
 }
  )
  )
end
end Go.Proofs.YtdlolaognnbhpaaDoor.Pr
namespace Go.Proofs.YtdlolaognnbhpaaDoor.Pr
open Go.RowKit Go.Proofs.YtdlolaognnbhpaaDoorW.PrintWords Go.Proofs.YtdlolaognnbhpaaDoorW.PrintLast Go.Proofs.YtdlolaognnbhpaaDoorW.PrintMore
noncomputable section
attribute [local go_sem] max2_int min2_int max_two min_two max_three min_three max_four min_four
set_option linter.unusedVariables false
set_option linter.unusedSimpArgs false
mutual
def repertoire_Class.j0:Nat→Int→Option (Int×Int)
 |0,_=>none
 |k+1,x0=>if x0<32 then (repertoire_Class.j1 k x0 true) else (repertoire_Class.j1 k x0 (decide (x0>65535)))
def repertoire_Class.j1:Nat→Int→Bool→Option (Int×Int)
 |0,_,_=>none
 |k+1,x0,x14=>if x14=true then (some (0,0)) else ((repertoire_letter.f k x0).bind fun t155=>(if t155=0 then (if x0=32 then (repertoire_Class.j2 k x0 true) else (repertoire_Class.j2 k x0 (x0==160))) else (some (t155,1))))
def repertoire_Class.j2:Nat→Int→Bool→Option (Int×Int)
 |0,_,_=>none
 |k+1,x0,x21=>if x21=true then (some (0,4)) else ((repertoire_from.f x0 48 57).bind fun t156=>(if t156=true then (repertoire_Class.j3 k x0 true) else (if x0=178 then (repertoire_Class.j3 k x0 true) else (if x0=179 then (repertoire_Class.j3 k x0 true) else (repertoire_Class.j3 k x0 (x0==185))))))
def repertoire_Class.j3:Nat→Int→Bool→Option (Int×Int)
 |0,_,_=>none
 |k+1,x0,x28=>if x28=true then (some (0,3)) else ((repertoire_mark.f k x0).bind fun t157=>(if t157=true then (some (0,2)) else (if x0≤126 then (some (0,5)) else (some (0,0)))))
end
def repertoire_Class.f (k:Nat) (a0:Int):Option (Int×Int):=(repertoire_from.f a0 65281 65374).bind fun t154=>(if t154=true then (repertoire_Class.j0 k (wrap64 (a0 - 65248))) else (repertoire_Class.j0 k a0))
set_option maxHeartbeats 8000000 in
set_option maxRecDepth 100000 in
theorem repertoire_Class.calls (k:Nat) (a0:Int) (r1:Int) (r2:Int) (w:World) (h:repertoire_Class.f k a0=some (r1,r2)):
 Calls Tryd.prog 78 #[.int .i64 a0] w fun e w'=>e= .returned (.tuple #[.int .i64 r1,.int .i64 r2])∧Below w.heap.size w w':=by
 have HB:=Aside0.mk (Below.refl w.heap.size w)
 have H:((repertoire_from.f a0 65281 65374).bind fun t154=>(if t154=true then (repertoire_Class.j0 k (wrap64 (a0 - 65248))) else (repertoire_Class.j0 k a0)))=some (r1,r2):=h
 clear h
 obtain ⟨t154,A2,H⟩:=ob_ H
 have HC3:=Aside0.mk H
 clear H
 go_enter Tryd.func78,Tryd.ntmps78
 go_upto_if 6 with (first|((with_reducible refine gate_callee (f:=83) rfl ?_);refine gl_ (some 6) Tryd.func83 #[.int .i64 a0,.int .i64 65281,.int .i64 65374] ?_;(with_reducible refine (repertoire_from.calls a0 65281 65374 t154 _ A2.out).mono ?_);rintro e w' ⟨rfl,⟨nd,rfl⟩⟩;refine ⟨_,rfl,?_⟩))
 (try simp only [Act.put,List.setIfInBounds_toArray,List.set_cons_zero,List.set_cons_succ])
 go_cut [0] (fun v0 wc=>∃ (kq:Nat) (x0_2:Int),v0= .int .i64 x0_2∧Aside0 (repertoire_Class.j0 kq x0_2=some (r1,r2))∧Aside0 (kq≤k)∧Aside0 (Below w.heap.size w wc))
 case first=>
  (
 have H:=HC3.out
 clear HC3
 by_cases c4:t154=true
 {
 subst c4
 replace H:=tp_ H
 have H':=Aside0.mk H
 clear H
 go_wp2
 go_meet
 case rel=>exact ⟨_,(wrap64 (a0 - 65248)),r0_,H',⟨by first|omega|exact Nat.le_refl _⟩,⟨b0_⟩⟩
 }
 {
 replace c4:=Bool.eq_false_iff.mpr c4
 subst c4
 replace H:=fn_ H
 have H':=Aside0.mk H
 clear H
 go_wp2
 go_meet
 case rel=>exact ⟨_,(a0),r0_,H',⟨by first|omega|exact Nat.le_refl _⟩,⟨b0_⟩⟩
 }
  )
 case rest=>
  (
 clear HC3
 try clear p2
 try clear c4
 obtain ⟨kq,x0_2,rfl,HA,HJ2,HB⟩:=hcut
 cases kq with
 |zero=>exact absurd HA.out (by simp [repertoire_Class.j0])
 |succ kj2=>
  (
 have H:=HA.out
 clear HA
 simp only [repertoire_Class.j0] at H
 have HC5:=Aside0.mk H
 clear H
 go_upto_region 3 with (fail)
 go_cut [14] (fun v14 wc=>∃ (kq:Nat) (x14_4:Bool),v14= .bool x14_4∧Aside0 (repertoire_Class.j1 kq x0_2 x14_4=some (r1,r2))∧Aside0 (kq≤kj2)∧Aside0 (Below w.heap.size w wc))
 case first=>
  (
 have H:=HC5.out
 clear HC5
 by_cases c6:x0_2<32
 {
 rw [if_pos c6] at H
 have c6b0:decide (x0_2<32)=true:=decide_eq_true c6
 clear c6
 (first|rw [c6b0]|(simp only [i64_w,i32_w];rw [c6b0])|skip)
 have H':=Aside0.mk H
 clear H
 go_wp2
 go_meet
 case rel=>exact ⟨_,(true),r0_,H',⟨by have:=HJ2.out;first|omega|exact Nat.le_refl _⟩,⟨b0_⟩⟩
 }
 {
 rw [if_neg c6] at H
 have c6b0:decide (x0_2<32)=false:=decide_eq_false c6
 clear c6
 (first|rw [c6b0]|(simp only [i64_w,i32_w];rw [c6b0])|skip)
 have H':=Aside0.mk H
 clear H
 go_wp2
 go_meet
 case rel=>exact ⟨_,(decide (x0_2>65535)),r0_,H',⟨by have:=HJ2.out;first|omega|exact Nat.le_refl _⟩,⟨b0_⟩⟩
 }
  )
 case rest=>
  (
 clear HC5
 try clear p2
 try clear c4
 try clear c6
 try clear c6b0
 try clear p6
 try clear p2
 obtain ⟨kq,x14_4,rfl,HA,HJ4,HB⟩:=hcut
 cases kq with
 |zero=>exact absurd HA.out (by simp [repertoire_Class.j1])
 |succ kj4=>
  (
 have H:=HA.out
 clear HA
 simp only [repertoire_Class.j1] at H
 by_cases c7:x14_4=true
 {
 subst c7
 replace H:=tp_ H
 simp only [Option.some.injEq,Prod.mk.injEq] at H
 obtain ⟨rfl,rfl⟩:=H
 go_wp2
 go_ret2
 exact ⟨r1_,b0_⟩
 }
 {
 replace c7:=Bool.eq_false_iff.mpr c7
 subst c7
 replace H:=fn_ H
 obtain ⟨t155,A8,H⟩:=ob_ H
 by_cases c9:t155=0
 {
 rw [if_pos c9] at H
 have c9b0:(t155==0)=true:=beq_iff_eq.mpr c9
 have c9b1:(t155 !=0)=false:=bne_eq_false_iff_eq.mpr c9
 clear c9
 have HC10:=Aside0.mk H
 clear H
 go_upto_region 8 with (first|((with_reducible refine gate_callee (f:=84) rfl ?_);refine gl_ (some 16) Tryd.func84 #[.int .i64 x0_2] ?_;(with_reducible refine (repertoire_letter.calls kj4 x0_2 t155 _ A8.out).mono ?_);rintro e w11 ⟨rfl,hb⟩;refine ⟨_,rfl,?_⟩;have n0_:=Aside0.mk (below_step b0_ hb);clear HB;have HB:=n0_;clear n0_;(try clear hb)))
 (try simp only [Act.put,List.setIfInBounds_toArray,List.set_cons_zero,List.set_cons_succ])
 go_cut [21] (fun v21 wc=>∃ (kq:Nat) (x21_9:Bool),v21= .bool x21_9∧Aside0 (repertoire_Class.j2 kq x0_2 x21_9=some (r1,r2))∧Aside0 (kq≤kj4)∧Aside0 (Below w.heap.size w wc))
 case first=>
  (
 have H:=HC10.out
 clear HC10
 by_cases c12:x0_2=32
 {
 rw [if_pos c12] at H
 have c12b0:(x0_2==32)=true:=beq_iff_eq.mpr c12
 have c12b1:(x0_2 !=32)=false:=bne_eq_false_iff_eq.mpr c12
 clear c12
 (first|rw [c12b0]|(simp only [i64_w,i32_w];rw [c12b0])|skip)
 have H':=Aside0.mk H
 clear H
 go_wp2
 go_meet
 case rel=>exact ⟨_,(true),r0_,H',⟨by have:=HJ2.out;have:=HJ4.out;first|omega|exact Nat.le_refl _⟩,⟨b0_⟩⟩
 }
 {
 rw [if_neg c12] at H
 have c12b0:(x0_2==32)=false:=beq_eq_false_iff_ne.mpr c12
 have c12b1:(x0_2 !=32)=true:=bne_iff_ne.mpr c12
 (first|rw [c12b0]|(simp only [i64_w,i32_w];rw [c12b0])|skip)
 have H':=Aside0.mk H
 clear H
 go_wp2
 go_meet
 case rel=>exact ⟨_,((x0_2==160)),r0_,H',⟨by have:=HJ2.out;have:=HJ4.out;first|omega|exact Nat.le_refl _⟩,⟨b0_⟩⟩
 }
  )
 case rest=>
  (
 clear HC10
 try clear c1
 try clear p2
 try clear c4
 try clear c6
 try clear c6b0
 try clear p6
 try clear c7
 try clear c8
 try clear c9
 try clear c9b0
 try clear c9b1
 try clear c12
 try clear c12b0
 try clear c12b1
 try clear p2
 try clear p6
 obtain ⟨kq,x21_9,rfl,HA,HJ9,HB⟩:=hcut
 cases kq with
 |zero=>exact absurd HA.out (by simp [repertoire_Class.j2])
 |succ kj9=>
  (
 have H:=HA.out
 clear HA
 simp only [repertoire_Class.j2] at H
 by_cases c13:x21_9=true
 {
 subst c13
 replace H:=tp_ H
 simp only [Option.some.injEq,Prod.mk.injEq] at H
 obtain ⟨rfl,rfl⟩:=H
 go_wp2
 go_ret2
 exact ⟨r1_,b0_⟩
 }
 {
 replace c13:=Bool.eq_false_iff.mpr c13
 subst c13
 replace H:=fn_ H
 have HC14:=Aside0.mk H
 clear H
 go_upto_region 10 with (fail)
 go_cut [28] (fun v28 wc=>∃ (kq:Nat) (x28_13:Bool),v28= .bool x28_13∧Aside0 (repertoire_Class.j3 kq x0_2 x28_13=some (r1,r2))∧Aside0 (kq≤kj9)∧Aside0 (Below w.heap.size w wc))
 case first=>
  (
 have H:=HC14.out
 clear HC14
 obtain ⟨t156,A15,H⟩:=ob_ H
 by_cases c16:t156=true
 {
 subst c16
 replace H:=tp_ H
 have H':=Aside0.mk H
 clear H
 go_wp2_with (first|((with_reducible refine gate_callee (f:=83) rfl ?_);refine gl_ (some 30) Tryd.func83 #[.int .i64 x0_2,.int .i64 48,.int .i64 57] ?_;(with_reducible refine (repertoire_from.calls x0_2 48 57 true _ A15.out).mono ?_);rintro e w' ⟨rfl,⟨nd,rfl⟩⟩;refine ⟨_,rfl,?_⟩))
 go_meet
 case rel=>exact ⟨_,(true),r0_,H',⟨by have:=HJ2.out;have:=HJ4.out;have:=HJ9.out;first|omega|exact Nat.le_refl _⟩,⟨b0_⟩⟩
 }
 {
 replace c16:=Bool.eq_false_iff.mpr c16
 subst c16
 replace H:=fn_ H
 by_cases c17:x0_2=178
 {
 rw [if_pos c17] at H
 have c17b0:(x0_2==178)=true:=beq_iff_eq.mpr c17
 have c17b1:(x0_2 !=178)=false:=bne_eq_false_iff_eq.mpr c17
 clear c17
 (first|rw [c17b0]|(simp only [i64_w,i32_w];rw [c17b0])|skip)
 have H':=Aside0.mk H
 clear H
 go_wp2_with (first|((with_reducible refine gate_callee (f:=83) rfl ?_);refine gl_ (some 30) Tryd.func83 #[.int .i64 x0_2,.int .i64 48,.int .i64 57] ?_;(with_reducible refine (repertoire_from.calls x0_2 48 57 false _ A15.out).mono ?_);rintro e w' ⟨rfl,⟨nd,rfl⟩⟩;refine ⟨_,rfl,?_⟩))
 go_meet
 case rel=>exact ⟨_,(true),r0_,H',⟨by have:=HJ2.out;have:=HJ4.out;have:=HJ9.out;first|omega|exact Nat.le_refl _⟩,⟨b0_⟩⟩
 }
 {
 rw [if_neg c17] at H
 have c17b0:(x0_2==178)=false:=beq_eq_false_iff_ne.mpr c17
 have c17b1:(x0_2 !=178)=true:=bne_iff_ne.mpr c17
 (first|rw [c17b0]|(simp only [i64_w,i32_w];rw [c17b0])|skip)
 by_cases c18:x0_2=179
 {
 rw [if_pos c18] at H
 have c18b0:(x0_2==179)=true:=beq_iff_eq.mpr c18
 have c18b1:(x0_2 !=179)=false:=bne_eq_false_iff_eq.mpr c18
 clear c18
 have H':=Aside0.mk H
 clear H
 go_wp2_with (first|((with_reducible refine gate_callee (f:=83) rfl ?_);refine gl_ (some 30) Tryd.func83 #[.int .i64 x0_2,.int .i64 48,.int .i64 57] ?_;(with_reducible refine (repertoire_from.calls x0_2 48 57 false _ A15.out).mono ?_);rintro e w' ⟨rfl,⟨nd,rfl⟩⟩;refine ⟨_,rfl,?_⟩))
 go_meet
 case rel=>exact ⟨_,(true),r0_,H',⟨by have:=HJ2.out;have:=HJ4.out;have:=HJ9.out;first|omega|exact Nat.le_refl _⟩,⟨b0_⟩⟩
 }
 {
 rw [if_neg c18] at H
 have c18b0:(x0_2==179)=false:=beq_eq_false_iff_ne.mpr c18
 have c18b1:(x0_2 !=179)=true:=bne_iff_ne.mpr c18
 have H':=Aside0.mk H
 clear H
 go_wp2_with (first|((with_reducible refine gate_callee (f:=83) rfl ?_);refine gl_ (some 30) Tryd.func83 #[.int .i64 x0_2,.int .i64 48,.int .i64 57] ?_;(with_reducible refine (repertoire_from.calls x0_2 48 57 false _ A15.out).mono ?_);rintro e w' ⟨rfl,⟨nd,rfl⟩⟩;refine ⟨_,rfl,?_⟩))
 go_meet
 case rel=>exact ⟨_,((x0_2==185)),r0_,H',⟨by have:=HJ2.out;have:=HJ4.out;have:=HJ9.out;first|omega|exact Nat.le_refl _⟩,⟨b0_⟩⟩
 }
 }
 }
  )
 case rest=>
  (
 clear HC14
 try clear c1
 try clear p2
 try clear c4
 try clear c6
 try clear c6b0
 try clear p6
 try clear c7
 try clear c8
 try clear c9
 try clear c9b0
 try clear c9b1
 try clear c12
 try clear c12b0
 try clear c12b1
 try clear c13
 try clear c16
 try clear c17
 try clear c17b0
 try clear c17b1
 try clear c18
 try clear c18b0
 try clear c18b1
 try clear p2
 try clear p6
 obtain ⟨kq,x28_13,rfl,HA,HJ13,HB⟩:=hcut
 cases kq with
 |zero=>exact absurd HA.out (by simp [repertoire_Class.j3])
 |succ kj13=>
  (
 have H:=HA.out
 clear HA
 simp only [repertoire_Class.j3] at H
 by_cases c19:x28_13=true
 {
 subst c19
 replace H:=tp_ H
 simp only [Option.some.injEq,Prod.mk.injEq] at H
 obtain ⟨rfl,rfl⟩:=H
 go_wp2
 go_ret2
 exact ⟨r1_,b0_⟩
 }
 {
 replace c19:=Bool.eq_false_iff.mpr c19
 subst c19
 replace H:=fn_ H
 obtain ⟨t157,A20,H⟩:=ob_ H
 by_cases c21:t157=true
 {
 subst c21
 replace H:=tp_ H
 simp only [Option.some.injEq,Prod.mk.injEq] at H
 obtain ⟨rfl,rfl⟩:=H
 go_wp2_with (first|((with_reducible refine gate_callee (f:=85) rfl ?_);refine gl_ (some 45) Tryd.func85 #[.int .i64 x0_2] ?_;(with_reducible refine (repertoire_mark.calls kj13 x0_2 true _ A20.out).mono ?_);rintro e w' ⟨rfl,⟨nd,rfl⟩⟩;refine ⟨_,rfl,?_⟩))
 go_ret2
 exact ⟨r1_,b0_⟩
 }
 {
 replace c21:=Bool.eq_false_iff.mpr c21
 subst c21
 replace H:=fn_ H
 by_cases c22:x0_2≤126
 {
 rw [if_pos c22] at H
 have c22b0:decide (x0_2≤126)=true:=decide_eq_true c22
 clear c22
 simp only [Option.some.injEq,Prod.mk.injEq] at H
 obtain ⟨rfl,rfl⟩:=H
 go_wp2_with (first|((with_reducible refine gate_callee (f:=85) rfl ?_);refine gl_ (some 45) Tryd.func85 #[.int .i64 x0_2] ?_;(with_reducible refine (repertoire_mark.calls kj13 x0_2 false _ A20.out).mono ?_);rintro e w' ⟨rfl,⟨nd,rfl⟩⟩;refine ⟨_,rfl,?_⟩))
 go_ret2
 exact ⟨r1_,b0_⟩
 }
 {
 rw [if_neg c22] at H
 have c22b0:decide (x0_2≤126)=false:=decide_eq_false c22
 clear c22
 simp only [Option.some.injEq,Prod.mk.injEq] at H
 obtain ⟨rfl,rfl⟩:=H
 go_wp2_with (first|((with_reducible refine gate_callee (f:=85) rfl ?_);refine gl_ (some 45) Tryd.func85 #[.int .i64 x0_2] ?_;(with_reducible refine (repertoire_mark.calls kj13 x0_2 false _ A20.out).mono ?_);rintro e w' ⟨rfl,⟨nd,rfl⟩⟩;refine ⟨_,rfl,?_⟩))
 go_ret2
 exact ⟨r1_,b0_⟩
 }
 }
 }
  )
  )
 }
  )
  )
 }
 {
 rw [if_neg c9] at H
 have c9b0:(t155==0)=false:=beq_eq_false_iff_ne.mpr c9
 have c9b1:(t155 !=0)=true:=bne_iff_ne.mpr c9
 simp only [Option.some.injEq,Prod.mk.injEq] at H
 obtain ⟨rfl,rfl⟩:=H
 go_wp2_with (first|((with_reducible refine gate_callee (f:=84) rfl ?_);refine gl_ (some 16) Tryd.func84 #[.int .i64 x0_2] ?_;(with_reducible refine (repertoire_letter.calls kj4 x0_2 t155 _ A8.out).mono ?_);rintro e w23 ⟨rfl,hb⟩;refine ⟨_,rfl,?_⟩;have n0_:=Aside0.mk (below_step b0_ hb);clear HB;have HB:=n0_;clear n0_;(try clear hb)))
 go_ret2
 exact ⟨r1_,b0_⟩
 }
 }
  )
  )
  )
  )
end
end Go.Proofs.YtdlolaognnbhpaaDoor.Pr
namespace Go.Proofs.YtdlolaognnbhpaaDoor.Pr
open Go.RowKit Go.Proofs.YtdlolaognnbhpaaDoorW.PrintWords Go.Proofs.YtdlolaognnbhpaaDoorW.PrintLast Go.Proofs.YtdlolaognnbhpaaDoorW.PrintMore
noncomputable section
attribute [local go_sem] max2_int min2_int max_two min_two max_three min_three max_four min_four
set_option linter.unusedVariables false
set_option linter.unusedSimpArgs false
def repertoire_Has.f (k:Nat) (a0:Int):Option (Bool):=(repertoire_Class.f k a0).bind fun bt158=>(some (bt158.2 !=0))
set_option maxHeartbeats 8000000 in
set_option maxRecDepth 100000 in
theorem repertoire_Has.calls (k:Nat) (a0:Int) (r:Bool) (w:World) (h:repertoire_Has.f k a0=some r):
 Calls Tryd.prog 67 #[.int .i64 a0] w fun e w'=>e= .returned (.bool r)∧Below w.heap.size w w':=by
 have HB:=Aside0.mk (Below.refl w.heap.size w)
 have H:((repertoire_Class.f k a0).bind fun bt158=>(some (bt158.2 !=0)))=some r:=h
 clear h
 replace H:=Option.bind_eq_some_iff.mp H
 obtain ⟨⟨t158,t159⟩,A20,H⟩:=H
 replace H:(some (t159 !=0))=some r:=H
 have A2:=Aside0.mk A20
 clear A20
 obtain rfl:=Option.some.inj H
 go_enter Tryd.func67,Tryd.ntmps67
 go_wp2_with (first|((with_reducible refine gate_callee (f:=78) rfl ?_);refine gl_ (some 7) Tryd.func78 #[.int .i64 a0] ?_;(with_reducible refine (repertoire_Class.calls k a0 t158 t159 _ A2.out).mono ?_);rintro e w3 ⟨rfl,hb⟩;refine ⟨_,rfl,?_⟩;have n0_:=Aside0.mk (below_step b0_ hb);clear HB;have HB:=n0_;clear n0_;(try clear hb)))
 go_ret
 exact ⟨r1_,b0_⟩
end
end Go.Proofs.YtdlolaognnbhpaaDoor.Pr
namespace Go.Proofs.YtdlolaognnbhpaaDoor.Pr
open Go.RowKit Go.Proofs.YtdlolaognnbhpaaDoorW.PrintWords Go.Proofs.YtdlolaognnbhpaaDoorW.PrintLast Go.Proofs.YtdlolaognnbhpaaDoorW.PrintMore
noncomputable section
attribute [local go_sem] max2_int min2_int max_two min_two max_three min_three max_four min_four
set_option linter.unusedVariables false
set_option linter.unusedSimpArgs false
def repertoire_Decode.l0:Nat→ByteArray→List Int→Option (List Int×Bool)
 |0,_,_=>none
 |k+1,x0,x4=>if (x0.size:Int)>0 then ((utf8_DecodeRuneInString.f x0).bind fun bt163=>(if bt163.1=65533 then (some (([]:List Int),false)) else ((repertoire_Has.f k (wrap64 (bt163.1))).bind fun t165=>(if t165=true then (if x4.length<17592186044416 then (if 0≤bt163.2 then (if bt163.2≤(x0.size:Int) then (repertoire_Decode.l0 k (x0.extract (bt163.2:Int).toNat x0.size) (x4++[wrap64 (bt163.1)])) else (none)) else (none)) else (none)) else (some (([]:List Int),false)))))) else (some (x4,true))
def repertoire_Decode.f (k:Nat) (a0:ByteArray):Option (List Int×Bool):=if 0≤(a0.size:Int) then (if (a0.size)≤35184372088832 then (repertoire_Decode.l0 k a0 (([]:List Int))) else (none)) else (none)
def repertoire_Decode.T6:Bool×List (List Nat×List Nat):=(true,[([],[]),([],[]),([1],[1]),([2],[2]),([0,3],[0,3]),([],[]),([],[]),([5,6],[5,6]),([4,4,0,1,2,3,4],[0,4]),([7,8,0,1,2,3,4,5,6,7,8],[5,7])])
def repertoire_Decode.B6:List Nat:=[0,0,2,6,15,0,0,96,31,511]
theorem repertoire_Decode.tab6:rtab .any (opsOf Tryd.f62 6)=repertoire_Decode.T6:=by kernel_rfl
theorem repertoire_Decode.bits6:waitsOk repertoire_Decode.T6.2 repertoire_Decode.B6=true:=by kernel_rfl
set_option maxHeartbeats 8000000 in
set_option maxRecDepth 100000 in
theorem repertoire_Decode.calls (k:Nat) (a0:ByteArray) (r1:List Int) (r2:Bool) (w:World) (hT:PTabs w) (h:repertoire_Decode.f k a0=some (r1,r2)):
 Calls Tryd.prog 62 #[.string a0] w fun e w'=>∃ v0_:Value,e= .returned (.tuple #[v0_,.bool r2])∧Kd.R (Kd.int .i64) 3 w' w.heap.size (fun _=>True) v0_ r1∧Below w.heap.size w w':=by
 have HB:=Aside0.mk (Below.refl w.heap.size w)
 have HT:=Aside0.mk hT
 clear hT
 have H:(if 0≤(a0.size:Int) then (if (a0.size)≤35184372088832 then (repertoire_Decode.l0 k a0 (([]:List Int))) else (none)) else (none))=some (r1,r2):=h
 clear h
 by_cases c2:0≤(a0.size:Int)
 {
 rw [if_pos c2] at H
 have c2b0:=eq_true c2
 have c2b1:decide (0≤(a0.size:Int))=true:=decide_eq_true c2
 clear c2
 by_cases c3:(a0.size)≤35184372088832
 {
 rw [if_pos c3] at H
 have c3b0:=eq_true c3
 have c3b1:decide ((a0.size)≤35184372088832)=true:=decide_eq_true c3
 clear c3
 obtain ⟨y160,hy160⟩:∃ y_:List Int,y_=(([]:List Int)):=⟨_,rfl⟩
 replace H:(repertoire_Decode.l0 k a0 y160)=some (r1,r2):=by first|(rw [hy160];with_reducible exact H)|(have H2_:=(Option.bind_some _ _).symm.trans H;rw [hy160];with_reducible exact H2_)|(have H2_:=(Option.bind_some _ _).symm.trans H;with_reducible exact H2_)|with_reducible exact H|(rw [hy160];exact H)|exact H
 have Ny160:=Aside0.mk hy160
 clear hy160
 have H':=Aside0.mk H
 clear H
 go_enter Tryd.func62,Tryd.ntmps62
 go_wp2_with (first|((with_reducible refine gate_dst (N:=9) rfl ?_);refine Aid.R_make0 (Kd.int .i64) _ 3 rfl (N:=9) rfl 72 _ _ rfl (a0.size:Int) rfl rfl Tryd.underlying72 (.int .i64 0) 8 info3 (by decide) (ok:=fun _=>True) trivial od_ (Nat.le_trans (Nat.mul_le_mul_right _ (od_:(a0.size:Int).toNat≤35184372088832)) (by omega)) (Below.refl _ _) (Nat.le_refl _) ?_;intro v161 w4 ho5 hb hg_ hnew_;clear hg_ hnew_;(first|rw [←Ny160.out] at ho5|(simp only [Int.reduceToNat] at ho5;rw [←Ny160.out] at ho5));have n_:=as2_ (Kd.R_lower ho5 (below_size b0_)) (below_step b0_ hb);clear HB;obtain ⟨HO162,HB⟩:=n_;clear hb ho5))
 go_loopg [0,4] k (fun kq v0 v4 w'=>∃ (x0_1:ByteArray) (x4_1:List Int),v0= .string x0_1∧Aside0 (repertoire_Decode.l0 kq x0_1 x4_1=some (r1,r2))∧Aside0 (kq≤k)∧Aside0 (Kd.R (Kd.int .i64) 3 w' w.heap.size (fun _=>True) v4 x4_1)∧Aside0 (Below w.heap.size w w'))
 case atStart=>exact ⟨(a0),(y160),r0_,H',⟨Nat.le_refl _⟩,⟨by (with_reducible repeat (first|apply Kd.R_alloc|apply Kd.R_drewN|apply Kd.R_drew));exact HO162.out⟩,⟨b0_⟩⟩
 case round=>
  (
 clear H'
 try clear c2
 try clear c2b0
 try clear c2b1
 try clear p2
 try clear c3
 try clear c3b0
 try clear c3b1
 obtain ⟨x0_1,x4_1,rfl,HA,HK1,HO_4,HB⟩:=hrel
 cases gk with
 |zero=>exact absurd HA.out (by simp [repertoire_Decode.l0])
 |succ k1=>
  (
 have H:=HA.out
 clear HA
 simp only [repertoire_Decode.l0] at H
 by_cases c6:(x0_1.size:Int)>0
 {
 rw [if_pos c6] at H
 have c6b0:decide (0<(x0_1.size:Int))=true:=decide_eq_true c6
 have c6b1:decide (0<x0_1.size)=true:=decide_eq_true (by omega)
 clear c6
 replace H:=Option.bind_eq_some_iff.mp H
 obtain ⟨⟨t163,t164⟩,A70,H⟩:=H
 replace H:(if t163=65533 then (some (([]:List Int),false)) else ((repertoire_Has.f k1 (wrap64 (t163))).bind fun t165=>(if t165=true then (if x4_1.length<17592186044416 then (if 0≤t164 then (if t164≤(x0_1.size:Int) then (repertoire_Decode.l0 k1 (x0_1.extract (t164:Int).toNat x0_1.size) (x4_1++[wrap64 (t163)])) else (none)) else (none)) else (none)) else (some (([]:List Int),false)))))=some (r1,r2):=H
 have A7:=Aside0.mk A70
 clear A70
 by_cases c8:t163=65533
 {
 rw [if_pos c8] at H
 have c8b0:(t163==65533)=true:=beq_iff_eq.mpr c8
 have c8b1:(t163 !=65533)=false:=bne_eq_false_iff_eq.mpr c8
 clear c8
 simp only [Option.some.injEq,Prod.mk.injEq] at H
 obtain ⟨rfl,rfl⟩:=H
 go_wp2_with (first|((with_reducible refine gate_callee (f:=66) rfl ?_);refine gl_ (some 15) Tryd.func66 #[.string x0_1] ?_;(with_reducible refine (utf8_DecodeRuneInString.calls x0_1 t163 t164 _ ?side1 A7.out).mono ?_);(case side1=>exact PTabs.step HT.out b0_);rintro e w9 ⟨rfl,hb⟩;refine ⟨_,rfl,?_⟩;have n_:=as2_ (Kd.R_below (xR_ HO_4) hb) (below_step b0_ hb);clear HO_4 HB;obtain ⟨HO_4,HB⟩:=n_;(try clear hb);(try clear hk)))
 go_ret2
 exact ⟨_,r1_,by first|exact Kd.R_nil _ _ _ _ _|exact Kd.N_nil _ _ _ _ _|exact Kd.V_nil _ _ _ _ _|exact Kd.Q_nil _ _ _ _ _|exact Kd.S_nil _ _ _ _ _,b0_⟩
 }
 {
 rw [if_neg c8] at H
 have c8b0:(t163==65533)=false:=beq_eq_false_iff_ne.mpr c8
 have c8b1:(t163 !=65533)=true:=bne_iff_ne.mpr c8
 obtain ⟨t165,A10,H⟩:=ob_ H
 by_cases c11:t165=true
 {
 subst c11
 replace H:=tp_ H
 by_cases c12:x4_1.length<17592186044416
 {
 rw [if_pos c12] at H
 have LMc12:=Aside0.mk c12
 clear c12
 obtain ⟨y166,hy166⟩:∃ y_:List Int,y_=(x4_1++[wrap64 (t163)]):=⟨_,rfl⟩
 replace H:(if 0≤t164 then (if t164≤(x0_1.size:Int) then (repertoire_Decode.l0 k1 (x0_1.extract (t164:Int).toNat x0_1.size) y166) else (none)) else (none))=some (r1,r2):=by first|(rw [hy166];with_reducible exact H)|(have H2_:=(Option.bind_some _ _).symm.trans H;rw [hy166];with_reducible exact H2_)|(have H2_:=(Option.bind_some _ _).symm.trans H;with_reducible exact H2_)|with_reducible exact H|(rw [hy166];exact H)|exact H
 have Ny166:=Aside0.mk hy166
 clear hy166
 by_cases c13:0≤t164
 {
 rw [if_pos c13] at H
 have c13b0:=eq_true c13
 have c13b1:decide (0≤t164)=true:=decide_eq_true c13
 clear c13
 by_cases c14:t164≤(x0_1.size:Int)
 {
 rw [if_pos c14] at H
 have c14b0:=eq_true c14
 have c14b1:decide (t164≤(x0_1.size:Int))=true:=decide_eq_true c14
 clear c14
 have H':=Aside0.mk H
 clear H
 try go_wp2_with (first|((with_reducible refine gate_callee (f:=66) rfl ?_);refine gl_ (some 15) Tryd.func66 #[.string x0_1] ?_;(with_reducible refine (utf8_DecodeRuneInString.calls x0_1 t163 t164 _ ?side1 A7.out).mono ?_);(case side1=>exact PTabs.step HT.out b0_);rintro e w15 ⟨rfl,hb⟩;refine ⟨_,rfl,?_⟩;have n_:=as2_ (Kd.R_below (xR_ HO_4) hb) (below_step b0_ hb);clear HO_4 HB;obtain ⟨HO_4,HB⟩:=n_;(try clear hb);(try clear hk))|(go_at_call 67;(with_reducible refine (repertoire_Has.calls k1 (wrap64 (t163)) true _ A10.out).mono ?_);rintro e w16 ⟨rfl,hb⟩;have n_:=as2_ (Kd.R_below (xR_ HO_4) hb) (below_step b0_ hb);clear HO_4 HB;obtain ⟨HO_4,HB⟩:=n_;(try clear hb);(try clear hk)))
 have n0_:=Aside0.mk (Kd.R_drew HO_4.out)
 have n1_:=Aside0.mk (below_drew1 HB.out)
 clear HO_4
 clear HB
 have HO_4:=n0_
 have HB:=n1_
 clear n0_ n1_
 refine start_ (n:=10) (S:=fun w'=>True) (ds:=[]) #[false,false,false,false,false,false,false,false,false,false] (by kernel_rfl) rfl rfl trivial (fun hHeld=> ?_);refine with_tabW repertoire_Decode.tab6 repertoire_Decode.bits6 (fun HT_ HW_=> ?_)
 generalize w16.drew=w17 at HO_4 HB hHeld⊢
 refine pA_ (i:=0) (N:=some 26) HT_ ?_
 refine pA_ (i:=1) (N:=some 27) HT_ ?_
 refine pA_ (i:=2) (N:=some 28) HT_ ?_
 refine pA_ (i:=5) (N:=some 31) HT_ ?_
 refine pA_ (i:=6) (N:=some 32) HT_ ?_
 refine pA_ (i:=7) (N:=some 33) HT_ ?_
 refine one_ (i:=3) (N:=some 29) #[true,true,true,true,false,true,true,true,false,false] rfl rfl (one_of HT_.out (by kernel_rfl)) (by decide) (fun K hK=> ?_)
 refine value_ (w1:=?_) (v:=?_) (by rfl) rfl ?_ ?_
 rotate_left 2
 {
 go_simp
 constructor
 {
 rfl
 }
 {
 rfl
 }
 }
 refine hK.out _ _ trivial (fun hHeld=> ?_)
 clear hK K
 refine norm_ (a':=?_) ?_ ?_
 rotate_left
 {
 show Act.put _ (some 29) _=_
 simp only [Act.put,List.setIfInBounds_toArray,List.set_cons_zero,List.set_cons_succ,i64_w,i32_w]
 rfl
 }
 refine one_ (i:=4) (N:=some 30) #[true,true,true,true,true,true,true,true,false,false] rfl rfl (one_of HT_.out (by kernel_rfl)) (by decide) (fun K hK=> ?_)
 refine Kd.R_append_step (Kd.int .i64) (w0:=w) w.heap.size (by rfl) (.tmp 26) (.tmp 29) 72 3 (.int .i64 0) 8 rfl Tryd.underlying72 info3 rfl (by decide) (by omega) u4 x4_1 (wrap64 (t163)) [.int .i64 (wrap64 (t163))] (fun _=>True) (fun _=>False) rfl rfl ?aP (fun _ hk=>hk.elim) ?aF ?aO ?aB ?aS ?aL ?_
 (case aP=>exact rfl)
 (case aB=>exact b0_)
 (case aF=>exact (fun _ _=>trivial))
 (case aO=>exact (xR_ HO_4))
 (case aS=>exact (below_size b0_))
 (case aL=>have:=LMc12.out;omega)
 intro v167 w18 ho hb hg hat
 rw [←Ny166.out] at ho
 have n0_:=Aside0.mk (hb)
 have n1_:=Aside0.mk (ho)
 clear HB
 clear HO_4
 have HB:=n0_
 have HO168:=n1_
 clear n0_ n1_
 clear ho hb hg hat
 refine hK.out _ _ trivial (fun hHeld=> ?_)
 clear hK K
 refine norm_ (a':=?_) ?_ ?_
 rotate_left
 {
 show Act.put _ (some 30) _=_
 simp only [Act.put,List.setIfInBounds_toArray,List.set_cons_zero,List.set_cons_succ,i64_w,i32_w]
 rfl
 }
 refine pA_ (i:=8) (N:=some 4) HT_ ?_
 refine pA_ (i:=9) (N:=some 0) HT_ ?_
 refine done_ (done_of HT_.out (by kernel_rfl)) ?_
 try go_wp2
 go_roundg k1
 case measure=>have:=HK1.out;omega
 case rel=>exact ⟨(x0_1.extract (t164:Int).toNat x0_1.size),(y166),r0_,H',⟨by have:=HK1.out;omega⟩,⟨by (with_reducible repeat (first|apply Kd.R_alloc|apply Kd.R_drewN|apply Kd.R_drew));exact HO168.out⟩,⟨b0_⟩⟩
 }
 {
 rw [if_neg c14] at H
 exact absurd H (by simp)
 }
 }
 {
 rw [if_neg c13] at H
 exact absurd H (by simp)
 }
 }
 {
 rw [if_neg c12] at H
 exact absurd H (by simp)
 }
 }
 {
 replace c11:=Bool.eq_false_iff.mpr c11
 subst c11
 replace H:=fn_ H
 simp only [Option.some.injEq,Prod.mk.injEq] at H
 obtain ⟨rfl,rfl⟩:=H
 go_wp2_with (first|((with_reducible refine gate_callee (f:=66) rfl ?_);refine gl_ (some 15) Tryd.func66 #[.string x0_1] ?_;(with_reducible refine (utf8_DecodeRuneInString.calls x0_1 t163 t164 _ ?side1 A7.out).mono ?_);(case side1=>exact PTabs.step HT.out b0_);rintro e w19 ⟨rfl,hb⟩;refine ⟨_,rfl,?_⟩;have n_:=as2_ (Kd.R_below (xR_ HO_4) hb) (below_step b0_ hb);clear HO_4 HB;obtain ⟨HO_4,HB⟩:=n_;(try clear hb);(try clear hk))|(go_at_call 67;(with_reducible refine (repertoire_Has.calls k1 (wrap64 (t163)) false _ A10.out).mono ?_);rintro e w20 ⟨rfl,hb⟩;have n_:=as2_ (Kd.R_below (xR_ HO_4) hb) (below_step b0_ hb);clear HO_4 HB;obtain ⟨HO_4,HB⟩:=n_;(try clear hb);(try clear hk)))
 go_ret2
 exact ⟨_,r1_,by first|exact Kd.R_nil _ _ _ _ _|exact Kd.N_nil _ _ _ _ _|exact Kd.V_nil _ _ _ _ _|exact Kd.Q_nil _ _ _ _ _|exact Kd.S_nil _ _ _ _ _,b0_⟩
 }
 }
 }
 {
 rw [if_neg c6] at H
 have c6b0:decide (0<(x0_1.size:Int))=false:=decide_eq_false c6
 have c6b1:decide (0<x0_1.size)=false:=decide_eq_false (by omega)
 clear c6
 simp only [Option.some.injEq,Prod.mk.injEq] at H
 obtain ⟨rfl,rfl⟩:=H
 go_wp2
 go_ret2
 exact ⟨_,r1_,by (with_reducible repeat (first|apply Kd.R_alloc|apply Kd.R_drewN|apply Kd.R_drew));exact HO_4.out,b0_⟩
 }
  )
  )
 }
 {
 rw [if_neg c3] at H
 exact absurd H (by simp)
 }
 }
 {
 rw [if_neg c2] at H
 exact absurd H (by simp)
 }
end
end Go.Proofs.YtdlolaognnbhpaaDoor.Pr
namespace Go.Proofs.YtdlolaognnbhpaaDoor.Pr
open Go.RowKit Go.Proofs.YtdlolaognnbhpaaDoorW.PrintWords Go.Proofs.YtdlolaognnbhpaaDoorW.PrintLast Go.Proofs.YtdlolaognnbhpaaDoorW.PrintMore
noncomputable section
attribute [local go_sem] max2_int min2_int max_two min_two max_three min_three max_four min_four
set_option linter.unusedVariables false
set_option linter.unusedSimpArgs false
def strings_Trim.f (a0 a1:ByteArray):Option ByteArray:=if a1=⟨#[32]⟩∧a0.size≤9223372036854775807 then some ⟨(Lib.trimB a0.data.toList 32).toArray⟩ else none
theorem strings_Trim.calls (a0 a1:ByteArray) (r:ByteArray) (w:World) (h:strings_Trim.f a0 a1=some r):
 Calls Tryd.prog 63 #[.string a0,.string a1] w fun e w'=>e= .returned (.string r)∧Drawn0 w w':=by
 unfold strings_Trim.f at h
 by_cases hc:a1=⟨#[32]⟩∧a0.size≤9223372036854775807
 {
 rw [if_pos hc] at h
 obtain rfl:=Option.some.inj h
 obtain ⟨rfl,hs⟩:=hc
 refine (Tryd.strings_Trim_one a0 32 (by decide) w hs).mono ?_
 rintro e w' ⟨rfl,rfl|rfl⟩
 {
 exact ⟨rfl,Drawn0.refl _⟩
 }
 {
 exact ⟨rfl,⟨1,rfl⟩⟩
 }
 }
 {
 rw [if_neg hc] at h
 cases h
 }
def repertoire_Valid.f (k:Nat) (a0:ByteArray):Option (Bool):=(repertoire_Decode.f k a0).bind fun bt169=>(if bt169.2=true then (if a0.toList=([]:List UInt8) then (some false) else (if (a0.size:Int)≤400 then ((strings_Trim.f a0 (⟨#[32]⟩:ByteArray)).bind fun t173=>(some (t173.toList==a0.toList))) else (some false))) else (some false))
set_option maxHeartbeats 8000000 in
set_option maxRecDepth 100000 in
theorem repertoire_Valid.calls (k:Nat) (a0:ByteArray) (r:Bool) (w:World) (hT:PTabs w) (h:repertoire_Valid.f k a0=some r):
 Calls Tryd.prog 51 #[.string a0] w fun e w'=>e= .returned (.bool r)∧Below w.heap.size w w':=by
 have HB:=Aside0.mk (Below.refl w.heap.size w)
 have HT:=Aside0.mk hT
 clear hT
 have H:((repertoire_Decode.f k a0).bind fun bt169=>(if bt169.2=true then (if a0.toList=([]:List UInt8) then (some false) else (if (a0.size:Int)≤400 then ((strings_Trim.f a0 (⟨#[32]⟩:ByteArray)).bind fun t173=>(some (t173.toList==a0.toList))) else (some false))) else (some false)))=some r:=h
 clear h
 replace H:=Option.bind_eq_some_iff.mp H
 obtain ⟨⟨t169,t170⟩,A20,H⟩:=H
 replace H:(if t170=true then (if a0.toList=([]:List UInt8) then (some false) else (if (a0.size:Int)≤400 then ((strings_Trim.f a0 (⟨#[32]⟩:ByteArray)).bind fun t173=>(some (t173.toList==a0.toList))) else (some false))) else (some false))=some r:=H
 have A2:=Aside0.mk A20
 clear A20
 by_cases c3:t170=true
 {
 subst c3
 replace H:=tp_ H
 by_cases c4:a0.toList=([]:List UInt8)
 {
 rw [if_pos c4] at H
 have c4b0:(a0.toList==([]:List UInt8))=true:=beq_iff_eq.mpr c4
 have c4b1:(a0.toList !=([]:List UInt8))=false:=bne_eq_false_iff_eq.mpr c4
 clear c4
 obtain rfl:=Option.some.inj H
 go_enter Tryd.func51,Tryd.ntmps51
 go_wp2_with (first|((with_reducible refine gate_callee (f:=62) rfl ?_);refine gl_ (some 7) Tryd.func62 #[.string a0] ?_;(with_reducible refine (repertoire_Decode.calls k a0 t169 true _ ?side1 A2.out).mono ?_);(case side1=>exact PTabs.step HT.out b0_);rintro e w5 ⟨v171,rfl,ho0,hb⟩;refine ⟨_,rfl,?_⟩;have n_:=as2_ (Kd.R_lower ho0 (below_size b0_)) (below_step b0_ hb);clear HB;obtain ⟨HO172,HB⟩:=n_;(try clear hb);(try clear ho0)))
 go_ret
 exact ⟨r1_,b0_⟩
 }
 {
 rw [if_neg c4] at H
 have c4b0:(a0.toList==([]:List UInt8))=false:=beq_eq_false_iff_ne.mpr c4
 have c4b1:(a0.toList !=([]:List UInt8))=true:=bne_iff_ne.mpr c4
 by_cases c6:(a0.size:Int)≤400
 {
 rw [if_pos c6] at H
 have c6b0:decide ((a0.size:Int)≤400)=true:=decide_eq_true c6
 have c6b1:decide (a0.size≤400)=true:=decide_eq_true (by omega)
 clear c6
 obtain ⟨t173,A7,H⟩:=ob_ H
 obtain rfl:=Option.some.inj H
 go_enter Tryd.func51,Tryd.ntmps51
 go_wp2_with (first|((with_reducible refine gate_callee (f:=62) rfl ?_);refine gl_ (some 7) Tryd.func62 #[.string a0] ?_;(with_reducible refine (repertoire_Decode.calls k a0 t169 true _ ?side1 A2.out).mono ?_);(case side1=>exact PTabs.step HT.out b0_);rintro e w8 ⟨v171,rfl,ho0,hb⟩;refine ⟨_,rfl,?_⟩;have n_:=as2_ (Kd.R_lower ho0 (below_size b0_)) (below_step b0_ hb);clear HB;obtain ⟨HO172,HB⟩:=n_;(try clear hb);(try clear ho0))|(go_at_call 63;(with_reducible refine (strings_Trim.calls a0 (⟨#[32]⟩:ByteArray) t173 _ A7.out).mono ?_);rintro e w' ⟨rfl,⟨nd,rfl⟩⟩))
 go_ret
 exact ⟨r1_,b0_⟩
 }
 {
 rw [if_neg c6] at H
 have c6b0:decide ((a0.size:Int)≤400)=false:=decide_eq_false c6
 have c6b1:decide (a0.size≤400)=false:=decide_eq_false (by omega)
 clear c6
 obtain rfl:=Option.some.inj H
 go_enter Tryd.func51,Tryd.ntmps51
 go_wp2_with (first|((with_reducible refine gate_callee (f:=62) rfl ?_);refine gl_ (some 7) Tryd.func62 #[.string a0] ?_;(with_reducible refine (repertoire_Decode.calls k a0 t169 true _ ?side1 A2.out).mono ?_);(case side1=>exact PTabs.step HT.out b0_);rintro e w9 ⟨v171,rfl,ho0,hb⟩;refine ⟨_,rfl,?_⟩;have n_:=as2_ (Kd.R_lower ho0 (below_size b0_)) (below_step b0_ hb);clear HB;obtain ⟨HO172,HB⟩:=n_;(try clear hb);(try clear ho0)))
 go_ret
 exact ⟨r1_,b0_⟩
 }
 }
 }
 {
 replace c3:=Bool.eq_false_iff.mpr c3
 subst c3
 replace H:=fn_ H
 obtain rfl:=Option.some.inj H
 go_enter Tryd.func51,Tryd.ntmps51
 go_wp2_with (first|((with_reducible refine gate_callee (f:=62) rfl ?_);refine gl_ (some 7) Tryd.func62 #[.string a0] ?_;(with_reducible refine (repertoire_Decode.calls k a0 t169 false _ ?side1 A2.out).mono ?_);(case side1=>exact PTabs.step HT.out b0_);rintro e w10 ⟨v171,rfl,ho0,hb⟩;refine ⟨_,rfl,?_⟩;have n_:=as2_ (Kd.R_lower ho0 (below_size b0_)) (below_step b0_ hb);clear HB;obtain ⟨HO172,HB⟩:=n_;(try clear hb);(try clear ho0)))
 go_ret
 exact ⟨r1_,b0_⟩
 }
def record_ValidField_1.f (k:Nat) (a0_0:Int) (a0_1:ByteArray):Option (Bool):=(record_code.f a0_0).bind fun t175=>(if t175=true then ((repertoire_Valid.f k a0_1).bind fun t176=>(some (!t176))) else (some true))
set_option maxHeartbeats 8000000 in
set_option maxRecDepth 100000 in
theorem record_ValidField_1.calls (k:Nat) (a0_0:Int) (a0_1:ByteArray) (r:Bool) (w:World) (hT:PTabs w) (h:record_ValidField_1.f k a0_0 a0_1=some r):
 Calls Tryd.prog 49 #[.agg #[.int .u8 a0_0,.string a0_1]] w fun e w'=>e= .returned (.bool r)∧Below w.heap.size w w':=by
 have hu55:=Tryd.underlying55
 have HB:=Aside0.mk (Below.refl w.heap.size w)
 have HT:=Aside0.mk hT
 clear hT
 have H:((record_code.f a0_0).bind fun t175=>(if t175=true then ((repertoire_Valid.f k a0_1).bind fun t176=>(some (!t176))) else (some true)))=some r:=h
 clear h
 obtain ⟨t175,A2,H⟩:=ob_ H
 by_cases c3:t175=true
 {
 subst c3
 replace H:=tp_ H
 obtain ⟨t176,A4,H⟩:=ob_ H
 obtain rfl:=Option.some.inj H
 go_enter Tryd.func49,Tryd.ntmps49
 go_wp2_with (first|((with_reducible refine gate_dst (N:=1) rfl ?_);refine bx_ (N:=1) (cs:=#[.int .u8 a0_0,.string a0_1]) (t:=55) ?_;intro gb174 hg w5 hbox hb;have n_:=as4_ (below_step b0_ hb) (hbox) ((g0_ hg b0_:w.heap.size≤gb174)) ((g0_ hg b0_:w.heap.size≤gb174));clear HB;obtain ⟨HB,BK174,GW174,GE174⟩:=n_;clear hb hbox hg;obtain ⟨hcz6_0,hcz6_1,hfz6_0,hfz6_1⟩:=ce2_ BK174)|((with_reducible refine gate_callee (f:=50) rfl ?_);refine gl_ (some 5) Tryd.func50 #[.int .u8 a0_0] ?_;(with_reducible refine (record_code.calls a0_0 true _ A2.out).mono ?_);rintro e w' ⟨rfl,⟨nd,rfl⟩⟩;refine ⟨_,rfl,?_⟩)|(go_at_call 51;(with_reducible refine (repertoire_Valid.calls k a0_1 t176 _ ?side1 A4.out).mono ?_);(case side1=>exact PTabs.step HT.out b0_);rintro e w7 ⟨rfl,hb⟩;have n_:=as2_ (bb_ BK174 hb) (below_step b0_ hb);clear BK174 HB;obtain ⟨BK174,HB⟩:=n_;(try clear hb)))
 go_ret
 exact ⟨r1_,b0_⟩
 }
 {
 replace c3:=Bool.eq_false_iff.mpr c3
 subst c3
 replace H:=fn_ H
 obtain rfl:=Option.some.inj H
 go_enter Tryd.func49,Tryd.ntmps49
 go_wp2_with (first|((with_reducible refine gate_dst (N:=1) rfl ?_);refine bx_ (N:=1) (cs:=#[.int .u8 a0_0,.string a0_1]) (t:=55) ?_;intro gb174 hg w8 hbox hb;have n_:=as4_ (below_step b0_ hb) (hbox) ((g0_ hg b0_:w.heap.size≤gb174)) ((g0_ hg b0_:w.heap.size≤gb174));clear HB;obtain ⟨HB,BK174,GW174,GE174⟩:=n_;clear hb hbox hg;obtain ⟨hcz9_0,hcz9_1,hfz9_0,hfz9_1⟩:=ce2_ BK174)|((with_reducible refine gate_callee (f:=50) rfl ?_);refine gl_ (some 5) Tryd.func50 #[.int .u8 a0_0] ?_;(with_reducible refine (record_code.calls a0_0 false _ A2.out).mono ?_);rintro e w' ⟨rfl,⟨nd,rfl⟩⟩;refine ⟨_,rfl,?_⟩))
 go_ret
 exact ⟨r1_,b0_⟩
 }
def api_Sub__v49_60005.l0:Nat→List (S55)→Int→Int→Option (Int)
 |0,_,_,_=>none
 |k+1,x0,x7,x8=>if x8<x7 then (if 0≤x8 then (if x8<(x0.length:Int) then ((record_ValidField_1.f k ((rd_T55 x0 x8).f0) ((rd_T55 x0 x8).f1)).bind fun t178=>(if t178=true then (some x8) else (api_Sub__v49_60005.l0 k x0 x7 (wrap64 (x8+1))))) else (none)) else (none)) else (some (-1))
def api_Sub__v49_60005.f (k:Nat) (l0:List (S55)):Option (Int):=api_Sub__v49_60005.l0 k l0 (l0.length:Int) 0
set_option maxHeartbeats 8000000 in
set_option maxRecDepth 100000 in
theorem api_Sub__v49_60005.calls (k:Nat) (A0:Option Addr) (c0:Nat) (l0:List (S55)) (r:Int) (w:World) (hT:PTabs w) (hr0:Kd.C k55 w A0 l0.length l0) (hc0:l0.length≤c0) (h:api_Sub__v49_60005.f k l0=some r):
 Calls Tryd.prog 60 #[.slice A0 l0.length c0,.func (.func 49) #[] #[]] w fun e w'=>e= .returned (.int .i64 r)∧Below w.heap.size w w':=by
 have hu55:=Tryd.underlying55
 have HR0:=Aside0.mk hr0
 have HC0:=Aside0.mk hc0
 clear hr0 hc0
 have HB:=Aside0.mk (Below.refl w.heap.size w)
 have HT:=Aside0.mk hT
 clear hT
 have H:(api_Sub__v49_60005.l0 k l0 (l0.length:Int) 0)=some r:=h
 clear h
 have H':=Aside0.mk H
 clear H
 go_enter Tryd.func60,Tryd.ntmps60
 go_wp2
 go_loopg [8] k (fun kq v8 w'=>∃ (x8_1:Int),v8= .int .i64 x8_1∧Aside0 (api_Sub__v49_60005.l0 kq l0 (l0.length:Int) x8_1=some r)∧Aside0 (kq≤k)∧Aside0 (Below w.heap.size w w'))
 case atStart=>exact ⟨(0),r0_,H',⟨Nat.le_refl _⟩,⟨b0_⟩⟩
 case round=>
  (
 clear H'
 obtain ⟨x8_1,rfl,HA,HK1,HB⟩:=hrel
 cases gk with
 |zero=>exact absurd HA.out (by simp [api_Sub__v49_60005.l0])
 |succ k1=>
  (
 have H:=HA.out
 clear HA
 simp only [api_Sub__v49_60005.l0] at H
 by_cases c2:x8_1<(l0.length:Int)
 {
 rw [if_pos c2] at H
 have c2b0:decide (x8_1<(l0.length:Int))=true:=decide_eq_true c2
 clear c2
 by_cases c3:0≤x8_1
 {
 rw [if_pos c3] at H
 have c3b0:decide (0≤x8_1)=true:=decide_eq_true c3
 clear c3
 by_cases c4:x8_1<(l0.length:Int)
 {
 rw [if_pos c4] at H
 have c4b0:decide (x8_1<(l0.length:Int))=true:=decide_eq_true c4
 clear c4
 obtain ⟨t178,A5,H⟩:=ob_ H
 by_cases c6:t178=true
 {
 subst c6
 replace H:=tp_ H
 obtain rfl:=Option.some.inj H
 have p177:0≤(x8_1:Int):=od_
 have q177:x8_1<(l0.length:Int):=od_
 obtain ⟨ad177,e177,hx177_0,hx177_1⟩:=at_T55 HR0.out x8_1 p177 q177
 cases e177
 replace hx177_0:=cel_ HB hx177_0
 replace hx177_1:=cel_ HB hx177_1
 replace p177:=eq_true p177
 replace q177:=eq_true q177
 go_wp2_with (first|((refine Aid.gate_calleeT (f:=49) rfl rfl ?_);refine Aid.goesT_ (some 16) rfl rfl Tryd.func49 (by kernel_rfl) rfl #[.agg #[.int .u8 ((rd_T55 l0 x8_1).f0),.string ((rd_T55 l0 x8_1).f1)]] rfl rfl ml_ ?_;(with_reducible refine (record_ValidField_1.calls k1 ((rd_T55 l0 x8_1).f0) ((rd_T55 l0 x8_1).f1) true _ ?side1 A5.out).mono ?_);(case side1=>exact PTabs.step HT.out b0_);rintro e w7 ⟨rfl,hb⟩;refine ⟨_,rfl,?_⟩;have n0_:=Aside0.mk (below_step b0_ hb);clear HB;have HB:=n0_;clear n0_;(try clear hb)))
 go_ret
 exact ⟨r1_,b0_⟩
 }
 {
 replace c6:=Bool.eq_false_iff.mpr c6
 subst c6
 replace H:=fn_ H
 have H':=Aside0.mk H
 clear H
 have p177:0≤(x8_1:Int):=od_
 have q177:x8_1<(l0.length:Int):=od_
 obtain ⟨ad177,e177,hx177_0,hx177_1⟩:=at_T55 HR0.out x8_1 p177 q177
 cases e177
 replace hx177_0:=cel_ HB hx177_0
 replace hx177_1:=cel_ HB hx177_1
 replace p177:=eq_true p177
 replace q177:=eq_true q177
 go_wp2_with (first|((refine Aid.gate_calleeT (f:=49) rfl rfl ?_);refine Aid.goesT_ (some 16) rfl rfl Tryd.func49 (by kernel_rfl) rfl #[.agg #[.int .u8 ((rd_T55 l0 x8_1).f0),.string ((rd_T55 l0 x8_1).f1)]] rfl rfl ml_ ?_;(with_reducible refine (record_ValidField_1.calls k1 ((rd_T55 l0 x8_1).f0) ((rd_T55 l0 x8_1).f1) false _ ?side1 A5.out).mono ?_);(case side1=>exact PTabs.step HT.out b0_);rintro e w8 ⟨rfl,hb⟩;refine ⟨_,rfl,?_⟩;have n0_:=Aside0.mk (below_step b0_ hb);clear HB;have HB:=n0_;clear n0_;(try clear hb)))
 go_roundg k1
 case measure=>have:=HK1.out;omega
 case rel=>exact ⟨(wrap64 (x8_1+1)),r0_,H',⟨by have:=HK1.out;omega⟩,⟨b0_⟩⟩
 }
 }
 {
 rw [if_neg c4] at H
 exact absurd H (by simp)
 }
 }
 {
 rw [if_neg c3] at H
 exact absurd H (by simp)
 }
 }
 {
 rw [if_neg c2] at H
 have c2b0:decide (x8_1<(l0.length:Int))=false:=decide_eq_false c2
 clear c2
 obtain rfl:=Option.some.inj H
 go_wp2
 go_ret
 exact ⟨r1_,b0_⟩
 }
  )
  )
end
end Go.Proofs.YtdlolaognnbhpaaDoor.Pr
namespace Go.Proofs.YtdlolaognnbhpaaDoor.Pr
open Go.RowKit Go.Proofs.YtdlolaognnbhpaaDoorW.PrintWords Go.Proofs.YtdlolaognnbhpaaDoorW.PrintLast Go.Proofs.YtdlolaognnbhpaaDoorW.PrintMore
noncomputable section
attribute [local go_sem] max2_int min2_int max_two min_two max_three min_three max_four min_four
set_option linter.unusedVariables false
set_option linter.unusedSimpArgs false
def api_Sub__v49_48004.f (k:Nat) (l0:List (S55)):Option (Bool):=(api_Sub__v49_60005.f k l0).bind fun t179=>(some (decide (t179≥0)))
set_option maxHeartbeats 8000000 in
set_option maxRecDepth 100000 in
theorem api_Sub__v49_48004.calls (k:Nat) (A0:Option Addr) (c0:Nat) (l0:List (S55)) (r:Bool) (w:World) (hT:PTabs w) (hr0:Kd.C k55 w A0 l0.length l0) (hc0:l0.length≤c0) (h:api_Sub__v49_48004.f k l0=some r):
 Calls Tryd.prog 48 #[.slice A0 l0.length c0,.func (.func 49) #[] #[]] w fun e w'=>e= .returned (.bool r)∧Below w.heap.size w w':=by
 have HR0:=Aside0.mk hr0
 have HC0:=Aside0.mk hc0
 clear hr0 hc0
 have HB:=Aside0.mk (Below.refl w.heap.size w)
 have HT:=Aside0.mk hT
 clear hT
 have H:((api_Sub__v49_60005.f k l0).bind fun t179=>(some (decide (t179≥0))))=some r:=h
 clear h
 obtain ⟨t179,A2,H⟩:=ob_ H
 obtain rfl:=Option.some.inj H
 go_enter Tryd.func48,Tryd.ntmps48
 go_wp2_with (first|((with_reducible refine gate_callee (f:=60) rfl ?_);refine gl_ (some 7) Tryd.func60 #[.slice A0 l0.length c0,.func (.func 49) #[] #[]] ?_;(with_reducible refine (api_Sub__v49_60005.calls k _ _ l0 t179 _ ?side3 ?side1 ?side2 A2.out).mono ?_);(case side1=>repeat (first|exact HR0.out|(with_reducible refine Kd.C_alloc ?_ _)|(with_reducible refine Kd.C_drewN ?_ _)|(with_reducible refine Kd.C_drew ?_)));(case side2=>exact HC0.out);(case side3=>exact PTabs.step HT.out b0_);rintro e w3 ⟨rfl,hb⟩;refine ⟨_,rfl,?_⟩;have n0_:=Aside0.mk (below_step b0_ hb);clear HB;have HB:=n0_;clear n0_;(try clear hb)))
 go_ret
 exact ⟨r1_,b0_⟩
def record_ValidField.f (k:Nat) (a0_0:ByteArray) (a0_1:Int) (a0_2:Int) (l0_3:List (S55)):Option (Bool):=(record_ValidTag.f a0_0).bind fun t181=>(if t181=true then ((record_indicator.f a0_1).bind fun t182=>(if t182=true then ((record_indicator.f a0_2).bind fun t183=>(if t183=true then (if (l0_3.length:Int)<1 then (some false) else (if (l0_3.length:Int)>20 then (some false) else ((api_Sub__v49_48004.f k l0_3).bind fun t184=>(some (!t184))))) else (some false))) else (some false))) else (some false))
set_option maxHeartbeats 8000000 in
set_option maxRecDepth 100000 in
theorem record_ValidField.calls (k:Nat) (a0_0:ByteArray) (a0_1:Int) (a0_2:Int) (A0_3:Option Addr) (c0_3:Nat) (l0_3:List (S55)) (r:Bool) (w:World) (hT:PTabs w) (hr0_3:Kd.C k55 w A0_3 l0_3.length l0_3) (hc0_3:l0_3.length≤c0_3) (h:record_ValidField.f k a0_0 a0_1 a0_2 l0_3=some r):
 Calls Tryd.prog 30 #[.agg #[.string a0_0,.int .u8 a0_1,.int .u8 a0_2,.slice A0_3 l0_3.length c0_3]] w fun e w'=>e= .returned (.bool r)∧Below w.heap.size w w':=by
 have hu50:=Tryd.underlying50
 have HR0_3:=Aside0.mk hr0_3
 have HC0_3:=Aside0.mk hc0_3
 clear hr0_3 hc0_3
 have HB:=Aside0.mk (Below.refl w.heap.size w)
 have HT:=Aside0.mk hT
 clear hT
 have H:((record_ValidTag.f a0_0).bind fun t181=>(if t181=true then ((record_indicator.f a0_1).bind fun t182=>(if t182=true then ((record_indicator.f a0_2).bind fun t183=>(if t183=true then (if (l0_3.length:Int)<1 then (some false) else (if (l0_3.length:Int)>20 then (some false) else ((api_Sub__v49_48004.f k l0_3).bind fun t184=>(some (!t184))))) else (some false))) else (some false))) else (some false)))=some r:=h
 clear h
 obtain ⟨t181,A2,H⟩:=ob_ H
 by_cases c3:t181=true
 {
 subst c3
 replace H:=tp_ H
 obtain ⟨t182,A4,H⟩:=ob_ H
 by_cases c5:t182=true
 {
 subst c5
 replace H:=tp_ H
 obtain ⟨t183,A6,H⟩:=ob_ H
 by_cases c7:t183=true
 {
 subst c7
 replace H:=tp_ H
 by_cases c8:(l0_3.length:Int)<1
 {
 rw [if_pos c8] at H
 have c8b0:decide ((l0_3.length:Int)<1)=true:=decide_eq_true c8
 have c8b1:decide (l0_3.length<1)=true:=decide_eq_true (by omega)
 clear c8
 obtain rfl:=Option.some.inj H
 go_enter Tryd.func30,Tryd.ntmps30
 go_wp2_with (first|((with_reducible refine gate_dst (N:=1) rfl ?_);(try (refine gate_guard (by rfl) ?_;dsimp only));refine bx_ (N:=1) (cs:=#[.string a0_0,.int .u8 a0_1,.int .u8 a0_2,.slice A0_3 l0_3.length c0_3]) (t:=50) ?_;intro gb180 hg w9 hbox hb;have n_:=as4_ (below_step b0_ hb) (hbox) ((g0_ hg b0_:w.heap.size≤gb180)) ((g0_ hg b0_:w.heap.size≤gb180));clear HB;obtain ⟨HB,BK180,GW180,GE180⟩:=n_;clear hb hbox hg;obtain ⟨hcz10_0,hcz10_1,hcz10_2,hcz10_3,hfz10_0,hfz10_1,hfz10_2,hfz10_3⟩:=ce4_ BK180)|((with_reducible refine gate_callee (f:=46) rfl ?_);refine gl_ (some 5) Tryd.func46 #[.string a0_0] ?_;(with_reducible refine (record_ValidTag.calls a0_0 true _ A2.out).mono ?_);rintro e w' ⟨rfl,⟨nd,rfl⟩⟩;refine ⟨_,rfl,?_⟩)|(go_at_call 47;(with_reducible refine (record_indicator.calls a0_1 true _ A4.out).mono ?_);rintro e w' ⟨rfl,⟨nd,rfl⟩⟩)|(go_at_call 47;(with_reducible refine (record_indicator.calls a0_2 true _ A6.out).mono ?_);rintro e w' ⟨rfl,⟨nd,rfl⟩⟩))
 go_ret
 exact ⟨r1_,b0_⟩
 }
 {
 rw [if_neg c8] at H
 have c8b0:decide ((l0_3.length:Int)<1)=false:=decide_eq_false c8
 have c8b1:decide (l0_3.length<1)=false:=decide_eq_false (by omega)
 clear c8
 by_cases c11:(l0_3.length:Int)>20
 {
 rw [if_pos c11] at H
 have c11b0:decide (20<(l0_3.length:Int))=true:=decide_eq_true c11
 have c11b1:decide (20<l0_3.length)=true:=decide_eq_true (by omega)
 clear c11
 obtain rfl:=Option.some.inj H
 go_enter Tryd.func30,Tryd.ntmps30
 go_wp2_with (first|((with_reducible refine gate_dst (N:=1) rfl ?_);(try (refine gate_guard (by rfl) ?_;dsimp only));refine bx_ (N:=1) (cs:=#[.string a0_0,.int .u8 a0_1,.int .u8 a0_2,.slice A0_3 l0_3.length c0_3]) (t:=50) ?_;intro gb180 hg w12 hbox hb;have n_:=as4_ (below_step b0_ hb) (hbox) ((g0_ hg b0_:w.heap.size≤gb180)) ((g0_ hg b0_:w.heap.size≤gb180));clear HB;obtain ⟨HB,BK180,GW180,GE180⟩:=n_;clear hb hbox hg;obtain ⟨hcz13_0,hcz13_1,hcz13_2,hcz13_3,hfz13_0,hfz13_1,hfz13_2,hfz13_3⟩:=ce4_ BK180)|((with_reducible refine gate_callee (f:=46) rfl ?_);refine gl_ (some 5) Tryd.func46 #[.string a0_0] ?_;(with_reducible refine (record_ValidTag.calls a0_0 true _ A2.out).mono ?_);rintro e w' ⟨rfl,⟨nd,rfl⟩⟩;refine ⟨_,rfl,?_⟩)|(go_at_call 47;(with_reducible refine (record_indicator.calls a0_1 true _ A4.out).mono ?_);rintro e w' ⟨rfl,⟨nd,rfl⟩⟩)|(go_at_call 47;(with_reducible refine (record_indicator.calls a0_2 true _ A6.out).mono ?_);rintro e w' ⟨rfl,⟨nd,rfl⟩⟩))
 go_ret
 exact ⟨r1_,b0_⟩
 }
 {
 rw [if_neg c11] at H
 have c11b0:decide (20<(l0_3.length:Int))=false:=decide_eq_false c11
 have c11b1:decide (20<l0_3.length)=false:=decide_eq_false (by omega)
 clear c11
 obtain ⟨t184,A14,H⟩:=ob_ H
 obtain rfl:=Option.some.inj H
 go_enter Tryd.func30,Tryd.ntmps30
 go_wp2_with (first|((with_reducible refine gate_dst (N:=1) rfl ?_);(try (refine gate_guard (by rfl) ?_;dsimp only));refine bx_ (N:=1) (cs:=#[.string a0_0,.int .u8 a0_1,.int .u8 a0_2,.slice A0_3 l0_3.length c0_3]) (t:=50) ?_;intro gb180 hg w15 hbox hb;have n_:=as4_ (below_step b0_ hb) (hbox) ((g0_ hg b0_:w.heap.size≤gb180)) ((g0_ hg b0_:w.heap.size≤gb180));clear HB;obtain ⟨HB,BK180,GW180,GE180⟩:=n_;clear hb hbox hg;obtain ⟨hcz16_0,hcz16_1,hcz16_2,hcz16_3,hfz16_0,hfz16_1,hfz16_2,hfz16_3⟩:=ce4_ BK180)|((with_reducible refine gate_callee (f:=46) rfl ?_);refine gl_ (some 5) Tryd.func46 #[.string a0_0] ?_;(with_reducible refine (record_ValidTag.calls a0_0 true _ A2.out).mono ?_);rintro e w' ⟨rfl,⟨nd,rfl⟩⟩;refine ⟨_,rfl,?_⟩)|(go_at_call 47;(with_reducible refine (record_indicator.calls a0_1 true _ A4.out).mono ?_);rintro e w' ⟨rfl,⟨nd,rfl⟩⟩)|(go_at_call 47;(with_reducible refine (record_indicator.calls a0_2 true _ A6.out).mono ?_);rintro e w' ⟨rfl,⟨nd,rfl⟩⟩)|((with_reducible refine gate_callee (f:=48) rfl ?_);refine gl_ (some 35) Tryd.func48 #[.slice A0_3 l0_3.length c0_3,.func (.func 49) #[] #[]] ?_;(with_reducible refine (api_Sub__v49_48004.calls k _ _ l0_3 t184 _ ?side3 ?side1 ?side2 A14.out).mono ?_);(case side1=>repeat (first|exact (Kd.C_below HR0_3.out b0_)|(with_reducible refine Kd.C_alloc ?_ _)|(with_reducible refine Kd.C_drewN ?_ _)|(with_reducible refine Kd.C_drew ?_)));(case side2=>exact HC0_3.out);(case side3=>exact PTabs.step HT.out b0_);rintro e w17 ⟨rfl,hb⟩;refine ⟨_,rfl,?_⟩;have n_:=as2_ (bb_ BK180 hb) (below_step b0_ hb);clear BK180 HB;obtain ⟨BK180,HB⟩:=n_;(try clear hb)))
 go_ret
 exact ⟨r1_,b0_⟩
 }
 }
 }
 {
 replace c7:=Bool.eq_false_iff.mpr c7
 subst c7
 replace H:=fn_ H
 obtain rfl:=Option.some.inj H
 go_enter Tryd.func30,Tryd.ntmps30
 go_wp2_with (first|((with_reducible refine gate_dst (N:=1) rfl ?_);(try (refine gate_guard (by rfl) ?_;dsimp only));refine bx_ (N:=1) (cs:=#[.string a0_0,.int .u8 a0_1,.int .u8 a0_2,.slice A0_3 l0_3.length c0_3]) (t:=50) ?_;intro gb180 hg w18 hbox hb;have n_:=as4_ (below_step b0_ hb) (hbox) ((g0_ hg b0_:w.heap.size≤gb180)) ((g0_ hg b0_:w.heap.size≤gb180));clear HB;obtain ⟨HB,BK180,GW180,GE180⟩:=n_;clear hb hbox hg;obtain ⟨hcz19_0,hcz19_1,hcz19_2,hcz19_3,hfz19_0,hfz19_1,hfz19_2,hfz19_3⟩:=ce4_ BK180)|((with_reducible refine gate_callee (f:=46) rfl ?_);refine gl_ (some 5) Tryd.func46 #[.string a0_0] ?_;(with_reducible refine (record_ValidTag.calls a0_0 true _ A2.out).mono ?_);rintro e w' ⟨rfl,⟨nd,rfl⟩⟩;refine ⟨_,rfl,?_⟩)|(go_at_call 47;(with_reducible refine (record_indicator.calls a0_1 true _ A4.out).mono ?_);rintro e w' ⟨rfl,⟨nd,rfl⟩⟩)|(go_at_call 47;(with_reducible refine (record_indicator.calls a0_2 false _ A6.out).mono ?_);rintro e w' ⟨rfl,⟨nd,rfl⟩⟩))
 go_ret
 exact ⟨r1_,b0_⟩
 }
 }
 {
 replace c5:=Bool.eq_false_iff.mpr c5
 subst c5
 replace H:=fn_ H
 obtain rfl:=Option.some.inj H
 go_enter Tryd.func30,Tryd.ntmps30
 go_wp2_with (first|((with_reducible refine gate_dst (N:=1) rfl ?_);(try (refine gate_guard (by rfl) ?_;dsimp only));refine bx_ (N:=1) (cs:=#[.string a0_0,.int .u8 a0_1,.int .u8 a0_2,.slice A0_3 l0_3.length c0_3]) (t:=50) ?_;intro gb180 hg w20 hbox hb;have n_:=as4_ (below_step b0_ hb) (hbox) ((g0_ hg b0_:w.heap.size≤gb180)) ((g0_ hg b0_:w.heap.size≤gb180));clear HB;obtain ⟨HB,BK180,GW180,GE180⟩:=n_;clear hb hbox hg;obtain ⟨hcz21_0,hcz21_1,hcz21_2,hcz21_3,hfz21_0,hfz21_1,hfz21_2,hfz21_3⟩:=ce4_ BK180)|((with_reducible refine gate_callee (f:=46) rfl ?_);refine gl_ (some 5) Tryd.func46 #[.string a0_0] ?_;(with_reducible refine (record_ValidTag.calls a0_0 true _ A2.out).mono ?_);rintro e w' ⟨rfl,⟨nd,rfl⟩⟩;refine ⟨_,rfl,?_⟩)|(go_at_call 47;(with_reducible refine (record_indicator.calls a0_1 false _ A4.out).mono ?_);rintro e w' ⟨rfl,⟨nd,rfl⟩⟩))
 go_ret
 exact ⟨r1_,b0_⟩
 }
 }
 {
 replace c3:=Bool.eq_false_iff.mpr c3
 subst c3
 replace H:=fn_ H
 obtain rfl:=Option.some.inj H
 go_enter Tryd.func30,Tryd.ntmps30
 go_wp2_with (first|((with_reducible refine gate_dst (N:=1) rfl ?_);(try (refine gate_guard (by rfl) ?_;dsimp only));refine bx_ (N:=1) (cs:=#[.string a0_0,.int .u8 a0_1,.int .u8 a0_2,.slice A0_3 l0_3.length c0_3]) (t:=50) ?_;intro gb180 hg w22 hbox hb;have n_:=as4_ (below_step b0_ hb) (hbox) ((g0_ hg b0_:w.heap.size≤gb180)) ((g0_ hg b0_:w.heap.size≤gb180));clear HB;obtain ⟨HB,BK180,GW180,GE180⟩:=n_;clear hb hbox hg;obtain ⟨hcz23_0,hcz23_1,hcz23_2,hcz23_3,hfz23_0,hfz23_1,hfz23_2,hfz23_3⟩:=ce4_ BK180)|((with_reducible refine gate_callee (f:=46) rfl ?_);refine gl_ (some 5) Tryd.func46 #[.string a0_0] ?_;(with_reducible refine (record_ValidTag.calls a0_0 false _ A2.out).mono ?_);rintro e w' ⟨rfl,⟨nd,rfl⟩⟩;refine ⟨_,rfl,?_⟩))
 go_ret
 exact ⟨r1_,b0_⟩
 }
def record_Valid_1.f (k:Nat) (a0_0:ByteArray) (a0_1:Int) (a0_2:Int) (l0_3:List (S55)):Option (Bool):=(record_ValidField.f k a0_0 a0_1 a0_2 l0_3).bind fun t186=>(some (!t186))
set_option maxHeartbeats 8000000 in
set_option maxRecDepth 100000 in
theorem record_Valid_1.calls (k:Nat) (a0_0:ByteArray) (a0_1:Int) (a0_2:Int) (A0_3:Option Addr) (c0_3:Nat) (l0_3:List (S55)) (r:Bool) (w:World) (hT:PTabs w) (hr0_3:Kd.C k55 w A0_3 l0_3.length l0_3) (hc0_3:l0_3.length≤c0_3) (h:record_Valid_1.f k a0_0 a0_1 a0_2 l0_3=some r):
 Calls Tryd.prog 35 #[.agg #[.string a0_0,.int .u8 a0_1,.int .u8 a0_2,.slice A0_3 l0_3.length c0_3]] w fun e w'=>e= .returned (.bool r)∧Below w.heap.size w w':=by
 have hu50:=Tryd.underlying50
 have HR0_3:=Aside0.mk hr0_3
 have HC0_3:=Aside0.mk hc0_3
 clear hr0_3 hc0_3
 have HB:=Aside0.mk (Below.refl w.heap.size w)
 have HT:=Aside0.mk hT
 clear hT
 have H:((record_ValidField.f k a0_0 a0_1 a0_2 l0_3).bind fun t186=>(some (!t186)))=some r:=h
 clear h
 obtain ⟨t186,A2,H⟩:=ob_ H
 obtain rfl:=Option.some.inj H
 go_enter Tryd.func35,Tryd.ntmps35
 go_wp2_with (first|((with_reducible refine gate_dst (N:=1) rfl ?_);refine bx_ (N:=1) (cs:=#[.string a0_0,.int .u8 a0_1,.int .u8 a0_2,.slice A0_3 l0_3.length c0_3]) (t:=50) ?_;intro gb185 hg w3 hbox hb;have n_:=as4_ (below_step b0_ hb) (hbox) ((g0_ hg b0_:w.heap.size≤gb185)) ((g0_ hg b0_:w.heap.size≤gb185));clear HB;obtain ⟨HB,BK185,GW185,GE185⟩:=n_;clear hb hbox hg;obtain ⟨hcz4_0,hcz4_1,hcz4_2,hcz4_3,hfz4_0,hfz4_1,hfz4_2,hfz4_3⟩:=ce4_ BK185)|((with_reducible refine gate_callee (f:=30) rfl ?_);refine gl_ (some 4) Tryd.func30 #[.agg #[.string a0_0,.int .u8 a0_1,.int .u8 a0_2,.slice A0_3 l0_3.length c0_3]] ?_;(with_reducible refine (record_ValidField.calls k a0_0 a0_1 a0_2 _ _ l0_3 t186 _ ?side3 ?side1 ?side2 A2.out).mono ?_);(case side1=>exact c0_);(case side2=>exact HC0_3.out);(case side3=>exact PTabs.step HT.out b0_);rintro e w5 ⟨rfl,hb⟩;refine ⟨_,rfl,?_⟩;have n_:=as2_ (bb_ BK185 hb) (below_step b0_ hb);clear BK185 HB;obtain ⟨BK185,HB⟩:=n_;(try clear hb)))
 go_ret
 exact ⟨r1_,b0_⟩
end
end Go.Proofs.YtdlolaognnbhpaaDoor.Pr
