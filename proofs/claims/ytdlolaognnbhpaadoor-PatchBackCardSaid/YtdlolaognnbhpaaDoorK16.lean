/- A part of the proof of laws of this seat: PatchBack, PatchDiff, PatchLeast, PatchMetric. Conditions: none of our own. -/
import Derived.Lib.SliceRun
import Derived.RangeFuncNested
import Derived.RangeFuncBound
import Derived.RangeFuncCalls
import Derived.RangeFuncLeaves
import Derived.Shelf.Abstract
import Derived.Shelf.RegionOpen
import Derived.OwnWalkIn
import Derived.TacticsInMore
import Derived.LoopNIn
import Derived.LoopIn
import Derived.Maps.OwnIn
import Derived.Test.YtdlolaognnbhpaaDoorK3
namespace Go.Proofs.YtdlolaognnbhpaaDoor.Pr
open Go.RowKit Go.Proofs.YtdlolaognnbhpaaDoorW.PrintWords Go.Proofs.YtdlolaognnbhpaaDoorW.PrintLast Go.Proofs.YtdlolaognnbhpaaDoorW.PrintMore
noncomputable section
attribute [local go_sem] max2_int min2_int max_two min_two max_three min_three max_four min_four
set_option linter.unusedVariables false
set_option linter.unusedSimpArgs false
mutual
def bookplateref04_at.j0:Nat→ByteArray→Int→Int→Bool→Option (Int×Int)
 |0,_,_,_,_=>none
 |k+1,x0,x1,x6,x35=>if x35=true then (if 0≤(wrap64 (x1+1)) then (if (wrap64 (x1+1))<(x0.size:Int) then (some (wrap64 ((wrap64 ((wrap64 (x6 - 192)) * 64))+(((bt x0 (wrap64 (x1+1))) - 128) % 256)),2)) else (none)) else (none)) else (if x6≥224 then (if x6<240 then (if (wrap64 (x1+2))<(x0.size:Int) then (if 0≤(wrap64 (x1+1)) then (if (wrap64 (x1+1))<(x0.size:Int) then (if ((bt x0 (wrap64 (x1+1))) / 64)=2 then (if 0≤(wrap64 (x1+2)) then (bookplateref04_at.j1 k x0 x1 x6 (((bt x0 (wrap64 (x1+2))) / 64)==2)) else (none)) else (bookplateref04_at.j1 k x0 x1 x6 false)) else (none)) else (none)) else (bookplateref04_at.j1 k x0 x1 x6 false)) else (bookplateref04_at.j1 k x0 x1 x6 false)) else (bookplateref04_at.j1 k x0 x1 x6 false))
def bookplateref04_at.j1:Nat→ByteArray→Int→Int→Bool→Option (Int×Int)
 |0,_,_,_,_=>none
 |k+1,x0,x1,x6,x74=>if x74=true then (if 0≤(wrap64 (x1+1)) then (if (wrap64 (x1+1))<(x0.size:Int) then (if 0≤(wrap64 (x1+2)) then (if (wrap64 (x1+2))<(x0.size:Int) then (if (wrap64 ((wrap64 ((wrap64 ((wrap64 (x6 - 224)) * 4096))+((((bt x0 (wrap64 (x1+1))) - 128) % 256) * 64)))+(((bt x0 (wrap64 (x1+2))) - 128) % 256)))≥2048 then (some (wrap64 ((wrap64 ((wrap64 ((wrap64 (x6 - 224)) * 4096))+((((bt x0 (wrap64 (x1+1))) - 128) % 256) * 64)))+(((bt x0 (wrap64 (x1+2))) - 128) % 256)),3)) else (some (0,0))) else (none)) else (none)) else (none)) else (none)) else (some (0,0))
end
def bookplateref04_at.f (k:Nat) (a0:ByteArray) (a1:Int):Option (Int×Int):=if 0≤a1 then (if a1<(a0.size:Int) then (if (wrap64 (bt a0 a1))<128 then (some (wrap64 (bt a0 a1),1)) else (if (wrap64 (bt a0 a1))≥194 then (if (wrap64 (bt a0 a1))<224 then (if (wrap64 (a1+1))<(a0.size:Int) then (if 0≤(wrap64 (a1+1)) then (bookplateref04_at.j0 k a0 a1 (wrap64 (bt a0 a1)) (((bt a0 (wrap64 (a1+1))) / 64)==2)) else (none)) else (bookplateref04_at.j0 k a0 a1 (wrap64 (bt a0 a1)) false)) else (bookplateref04_at.j0 k a0 a1 (wrap64 (bt a0 a1)) false)) else (bookplateref04_at.j0 k a0 a1 (wrap64 (bt a0 a1)) false))) else (none)) else (none)
set_option maxHeartbeats 8000000 in
set_option maxRecDepth 100000 in
theorem bookplateref04_at.calls (k:Nat) (a0:ByteArray) (a1:Int) (r1:Int) (r2:Int) (w:World) (h:bookplateref04_at.f k a0 a1=some (r1,r2)):
 Calls Tryd.prog 75 #[.string a0,.int .i64 a1] w fun e w'=>e= .returned (.tuple #[.int .i64 r1,.int .i64 r2])∧Drawn0 w w':=by
 have H:(if 0≤a1 then (if a1<(a0.size:Int) then (if (wrap64 (bt a0 a1))<128 then (some (wrap64 (bt a0 a1),1)) else (if (wrap64 (bt a0 a1))≥194 then (if (wrap64 (bt a0 a1))<224 then (if (wrap64 (a1+1))<(a0.size:Int) then (if 0≤(wrap64 (a1+1)) then (bookplateref04_at.j0 k a0 a1 (wrap64 (bt a0 a1)) (((bt a0 (wrap64 (a1+1))) / 64)==2)) else (none)) else (bookplateref04_at.j0 k a0 a1 (wrap64 (bt a0 a1)) false)) else (bookplateref04_at.j0 k a0 a1 (wrap64 (bt a0 a1)) false)) else (bookplateref04_at.j0 k a0 a1 (wrap64 (bt a0 a1)) false))) else (none)) else (none))=some (r1,r2):=h
 clear h
 by_cases c3:0≤a1
 {
 rw [if_pos c3] at H
 have c3b0:decide (0≤a1)=true:=decide_eq_true c3
 clear c3
 by_cases c4:a1<(a0.size:Int)
 {
 rw [if_pos c4] at H
 have c4b0:decide (a1<(a0.size:Int))=true:=decide_eq_true c4
 clear c4
 by_cases c6:(wrap64 (bt a0 a1))<128
 {
 rw [if_pos c6] at H
 have c6b0:decide ((wrap64 (bt a0 a1))<128)=true:=decide_eq_true c6
 clear c6
 simp only [Option.some.injEq,Prod.mk.injEq] at H
 obtain ⟨rfl,rfl⟩:=H
 have p5:0≤(a1:Int):=od_
 have q5:a1<(a0.size:Int):=od_
 have hx5:=bt_at a0 a1
 replace p5:=eq_true p5
 replace q5:=eq_true q5
 go_enter Tryd.func75,Tryd.ntmps75
 go_wp2
 repeat (go_quiet (fail);try go_wp2)
 go_ret2
 exact ⟨r0_,d0_⟩
 }
 {
 rw [if_neg c6] at H
 have c6b0:decide ((wrap64 (bt a0 a1))<128)=false:=decide_eq_false c6
 clear c6
 have HC7:=Aside0.mk H
 clear H
 have p5:0≤(a1:Int):=od_
 have q5:a1<(a0.size:Int):=od_
 have hx5:=bt_at a0 a1
 replace p5:=eq_true p5
 replace q5:=eq_true q5
 go_enter Tryd.func75,Tryd.ntmps75
 go_upto_region 4 with (fail)
 repeat (go_quiet (fail);go_upto_region 4 with (fail))
 go_cut [35] (fun v35 wc=>∃ (kq:Nat) (x35_6:Bool),v35= .bool x35_6∧Aside0 (bookplateref04_at.j0 kq a0 a1 (wrap64 (bt a0 a1)) x35_6=some (r1,r2))∧Aside0 (kq≤k)∧Drawn0 w wc)
 case first=>
  (
 have H:=HC7.out
 clear HC7
 by_cases c8:(wrap64 (bt a0 a1))≥194
 {
 rw [if_pos c8] at H
 have c8b0:decide (194≤(wrap64 (bt a0 a1)))=true:=decide_eq_true c8
 clear c8
 (first|rw [c8b0]|(simp only [i64_w,i32_w];rw [c8b0])|skip)
 by_cases c9:(wrap64 (bt a0 a1))<224
 {
 rw [if_pos c9] at H
 have c9b0:decide ((wrap64 (bt a0 a1))<224)=true:=decide_eq_true c9
 clear c9
 by_cases c10:(wrap64 (a1+1))<(a0.size:Int)
 {
 rw [if_pos c10] at H
 have c10b0:decide ((wrap64 (a1+1))<(a0.size:Int))=true:=decide_eq_true c10
 clear c10
 obtain ⟨ji11,hji11⟩:∃ j_:Int,(wrap64 (a1+1))=j_:=⟨_,rfl⟩
 replace H:(if 0≤(ji11) then (bookplateref04_at.j0 k a0 a1 (wrap64 (bt a0 a1)) (((bt a0 (ji11)) / 64)==2)) else (none))=some (r1,r2):=by first|(rw [hji11] at H;exact H)|(simp only [hji11] at H⊢;exact H)
 (try rw [hji11] at c10b0)
 have hji11w:(IntKind.i64.wrap (a1+1))=ji11:=(i64_w _).trans hji11
 by_cases c12:0≤(ji11)
 {
 rw [if_pos c12] at H
 have c12b0:decide (0≤(ji11))=true:=decide_eq_true c12
 clear c12
 have H':=Aside0.mk H
 clear H
 have p13:0≤((ji11):Int):=od_
 have q13:(ji11)<(a0.size:Int):=od_
 have hx13:=bt_at a0 (ji11)
 replace p13:=eq_true p13
 replace q13:=eq_true q13
 go_wp2
 repeat (go_quiet (fail);try go_wp2)
 go_meet
 case rel=>exact ⟨_,((((bt a0 (ji11)) / 64)==2)),(by first|rfl|(simp;done)|(simp only [←hji11]<;>(first|rfl|simp))|(simp [*];done)),H',⟨by first|omega|exact Nat.le_refl _⟩,d0_⟩
 }
 {
 rw [if_neg c12] at H
 exact absurd H (by simp)
 }
 }
 {
 rw [if_neg c10] at H
 have c10b0:decide ((wrap64 (a1+1))<(a0.size:Int))=false:=decide_eq_false c10
 clear c10
 have H':=Aside0.mk H
 clear H
 go_wp2
 repeat (go_quiet (fail);try go_wp2)
 go_meet
 case rel=>exact ⟨_,(false),r0_,H',⟨by first|omega|exact Nat.le_refl _⟩,d0_⟩
 }
 }
 {
 rw [if_neg c9] at H
 have c9b0:decide ((wrap64 (bt a0 a1))<224)=false:=decide_eq_false c9
 clear c9
 have H':=Aside0.mk H
 clear H
 go_wp2
 repeat (go_quiet (fail);try go_wp2)
 go_meet
 case rel=>exact ⟨_,(false),r0_,H',⟨by first|omega|exact Nat.le_refl _⟩,d0_⟩
 }
 }
 {
 rw [if_neg c8] at H
 have c8b0:decide (194≤(wrap64 (bt a0 a1)))=false:=decide_eq_false c8
 clear c8
 (first|rw [c8b0]|(simp only [i64_w,i32_w];rw [c8b0])|skip)
 have H':=Aside0.mk H
 clear H
 go_wp2
 repeat (go_quiet (fail);try go_wp2)
 go_meet
 case rel=>exact ⟨_,(false),r0_,H',⟨by first|omega|exact Nat.le_refl _⟩,d0_⟩
 }
  )
 case rest=>
  (
 clear HC7
 try clear c1
 try clear p1
 try clear q1
 try clear hx1
 try clear p2
 try clear c3
 try clear c3b0
 try clear c4
 try clear c4b0
 try clear p5
 try clear q5
 try clear hx5
 try clear c6
 try clear c6b0
 try clear p6
 try clear c7
 try clear c8
 try clear c8b0
 try clear c9
 try clear c9b0
 try clear c10
 try clear c10b0
 try clear c12
 try clear c12b0
 try clear p13
 try clear q13
 try clear hx13
 try clear p13
 try clear p5
 try clear q13
 try clear q5
 obtain ⟨kq,x35_6,rfl,HA,HJ6,⟨mc6,rfl⟩⟩:=hcut
 cases kq with
 |zero=>exact absurd HA.out (by simp [bookplateref04_at.j0])
 |succ kj6=>
  (
 have H:=HA.out
 clear HA
 simp only [bookplateref04_at.j0] at H
 by_cases c14:x35_6=true
 {
 subst c14
 replace H:=tp_ H
 obtain ⟨ji15,hji15⟩:∃ j_:Int,(wrap64 (a1+1))=j_:=⟨_,rfl⟩
 replace H:(if 0≤(ji15) then (if (ji15)<(a0.size:Int) then (some (wrap64 ((wrap64 ((wrap64 ((wrap64 (bt a0 a1)) - 192)) * 64))+(((bt a0 (ji15)) - 128) % 256)),2)) else (none)) else (none))=some (r1,r2):=by first|(rw [hji15] at H;exact H)|(simp only [hji15] at H⊢;exact H)
 have hji15w:(IntKind.i64.wrap (a1+1))=ji15:=(i64_w _).trans hji15
 by_cases c16:0≤(ji15)
 {
 rw [if_pos c16] at H
 have c16b0:decide (0≤(ji15))=true:=decide_eq_true c16
 clear c16
 by_cases c17:(ji15)<(a0.size:Int)
 {
 rw [if_pos c17] at H
 have c17b0:decide ((ji15)<(a0.size:Int))=true:=decide_eq_true c17
 clear c17
 simp only [Option.some.injEq,Prod.mk.injEq] at H
 obtain ⟨rfl,rfl⟩:=H
 have p18:0≤((ji15):Int):=od_
 have q18:(ji15)<(a0.size:Int):=od_
 have hx18:=bt_at a0 (ji15)
 replace p18:=eq_true p18
 replace q18:=eq_true q18
 go_wp2
 repeat (go_quiet (fail);try go_wp2)
 go_ret2
 exact ⟨by first|rfl|(simp;done)|(simp only [←hji15]<;>(first|rfl|simp))|(simp [*];done),d0_⟩
 }
 {
 rw [if_neg c17] at H
 exact absurd H (by simp)
 }
 }
 {
 rw [if_neg c16] at H
 exact absurd H (by simp)
 }
 }
 {
 replace c14:=Bool.eq_false_iff.mpr c14
 subst c14
 replace H:=fn_ H
 have HC19:=Aside0.mk H
 clear H
 go_upto_region 6 with (fail)
 repeat (go_quiet (fail);go_upto_region 6 with (fail))
 go_cut [74] (fun v74 wc=>∃ (kq:Nat) (x74_18:Bool),v74= .bool x74_18∧Aside0 (bookplateref04_at.j1 kq a0 a1 (wrap64 (bt a0 a1)) x74_18=some (r1,r2))∧Aside0 (kq≤kj6)∧Drawn0 w wc)
 case first=>
  (
 have H:=HC19.out
 clear HC19
 by_cases c20:(wrap64 (bt a0 a1))≥224
 {
 rw [if_pos c20] at H
 have c20b0:decide (224≤(wrap64 (bt a0 a1)))=true:=decide_eq_true c20
 clear c20
 (first|rw [c20b0]|(simp only [i64_w,i32_w];rw [c20b0])|skip)
 by_cases c21:(wrap64 (bt a0 a1))<240
 {
 rw [if_pos c21] at H
 have c21b0:decide ((wrap64 (bt a0 a1))<240)=true:=decide_eq_true c21
 clear c21
 by_cases c22:(wrap64 (a1+2))<(a0.size:Int)
 {
 rw [if_pos c22] at H
 have c22b0:decide ((wrap64 (a1+2))<(a0.size:Int))=true:=decide_eq_true c22
 clear c22
 obtain ⟨ji23,hji23⟩:∃ j_:Int,(wrap64 (a1+1))=j_:=⟨_,rfl⟩
 replace H:(if 0≤(ji23) then (if (ji23)<(a0.size:Int) then (if ((bt a0 (ji23)) / 64)=2 then (if 0≤(wrap64 (a1+2)) then (bookplateref04_at.j1 kj6 a0 a1 (wrap64 (bt a0 a1)) (((bt a0 (wrap64 (a1+2))) / 64)==2)) else (none)) else (bookplateref04_at.j1 kj6 a0 a1 (wrap64 (bt a0 a1)) false)) else (none)) else (none))=some (r1,r2):=by first|(rw [hji23] at H;exact H)|(simp only [hji23] at H⊢;exact H)
 have hji23w:(IntKind.i64.wrap (a1+1))=ji23:=(i64_w _).trans hji23
 by_cases c24:0≤(ji23)
 {
 rw [if_pos c24] at H
 have c24b0:decide (0≤(ji23))=true:=decide_eq_true c24
 clear c24
 by_cases c25:(ji23)<(a0.size:Int)
 {
 rw [if_pos c25] at H
 have c25b0:decide ((ji23)<(a0.size:Int))=true:=decide_eq_true c25
 clear c25
 by_cases c27:((bt a0 (ji23)) / 64)=2
 {
 rw [if_pos c27] at H
 have c27b0:(((bt a0 (ji23)) / 64)==2)=true:=beq_iff_eq.mpr c27
 have c27b1:(((bt a0 (ji23)) / 64) !=2)=false:=bne_eq_false_iff_eq.mpr c27
 clear c27
 obtain ⟨ji28,hji28⟩:∃ j_:Int,(wrap64 (a1+2))=j_:=⟨_,rfl⟩
 replace H:(if 0≤(ji28) then (bookplateref04_at.j1 kj6 a0 a1 (wrap64 (bt a0 a1)) (((bt a0 (ji28)) / 64)==2)) else (none))=some (r1,r2):=by first|(rw [hji28] at H;exact H)|(simp only [hji28] at H⊢;exact H)
 (try rw [hji28] at c22b0)
 have hji28w:(IntKind.i64.wrap (a1+2))=ji28:=(i64_w _).trans hji28
 by_cases c29:0≤(ji28)
 {
 rw [if_pos c29] at H
 have c29b0:decide (0≤(ji28))=true:=decide_eq_true c29
 clear c29
 have H':=Aside0.mk H
 clear H
 have p26:0≤((ji23):Int):=od_
 have q26:(ji23)<(a0.size:Int):=od_
 have hx26:=bt_at a0 (ji23)
 replace p26:=eq_true p26
 replace q26:=eq_true q26
 have p30:0≤((ji28):Int):=od_
 have q30:(ji28)<(a0.size:Int):=od_
 have hx30:=bt_at a0 (ji28)
 replace p30:=eq_true p30
 replace q30:=eq_true q30
 go_wp2
 repeat (go_quiet (fail);try go_wp2)
 go_meet
 case rel=>exact ⟨_,((((bt a0 (ji28)) / 64)==2)),(by first|rfl|(simp;done)|(simp only [←hji28]<;>(first|rfl|simp))|(simp [*];done)),H',⟨by have:=HJ6.out;first|omega|exact Nat.le_refl _⟩,d0_⟩
 }
 {
 rw [if_neg c29] at H
 exact absurd H (by simp)
 }
 }
 {
 rw [if_neg c27] at H
 have c27b0:(((bt a0 (ji23)) / 64)==2)=false:=beq_eq_false_iff_ne.mpr c27
 have c27b1:(((bt a0 (ji23)) / 64) !=2)=true:=bne_iff_ne.mpr c27
 have H':=Aside0.mk H
 clear H
 have p26:0≤((ji23):Int):=od_
 have q26:(ji23)<(a0.size:Int):=od_
 have hx26:=bt_at a0 (ji23)
 replace p26:=eq_true p26
 replace q26:=eq_true q26
 go_wp2
 repeat (go_quiet (fail);try go_wp2)
 go_meet
 case rel=>exact ⟨_,(false),r0_,H',⟨by have:=HJ6.out;first|omega|exact Nat.le_refl _⟩,d0_⟩
 }
 }
 {
 rw [if_neg c25] at H
 exact absurd H (by simp)
 }
 }
 {
 rw [if_neg c24] at H
 exact absurd H (by simp)
 }
 }
 {
 rw [if_neg c22] at H
 have c22b0:decide ((wrap64 (a1+2))<(a0.size:Int))=false:=decide_eq_false c22
 clear c22
 have H':=Aside0.mk H
 clear H
 go_wp2
 repeat (go_quiet (fail);try go_wp2)
 go_meet
 case rel=>exact ⟨_,(false),r0_,H',⟨by have:=HJ6.out;first|omega|exact Nat.le_refl _⟩,d0_⟩
 }
 }
 {
 rw [if_neg c21] at H
 have c21b0:decide ((wrap64 (bt a0 a1))<240)=false:=decide_eq_false c21
 clear c21
 have H':=Aside0.mk H
 clear H
 go_wp2
 repeat (go_quiet (fail);try go_wp2)
 go_meet
 case rel=>exact ⟨_,(false),r0_,H',⟨by have:=HJ6.out;first|omega|exact Nat.le_refl _⟩,d0_⟩
 }
 }
 {
 rw [if_neg c20] at H
 have c20b0:decide (224≤(wrap64 (bt a0 a1)))=false:=decide_eq_false c20
 clear c20
 (first|rw [c20b0]|(simp only [i64_w,i32_w];rw [c20b0])|skip)
 have H':=Aside0.mk H
 clear H
 go_wp2
 repeat (go_quiet (fail);try go_wp2)
 go_meet
 case rel=>exact ⟨_,(false),r0_,H',⟨by have:=HJ6.out;first|omega|exact Nat.le_refl _⟩,d0_⟩
 }
  )
 case rest=>
  (
 clear HC19
 try clear c1
 try clear p1
 try clear q1
 try clear hx1
 try clear c2
 try clear p2
 try clear q2
 try clear hx2
 try clear c3
 try clear c3b0
 try clear p3
 try clear q3
 try clear hx3
 try clear c4
 try clear c4b0
 try clear p5
 try clear q5
 try clear hx5
 try clear c6
 try clear c6b0
 try clear p6
 try clear c7
 try clear c8
 try clear c8b0
 try clear c9
 try clear c9b0
 try clear c10
 try clear c10b0
 try clear c12
 try clear c12b0
 try clear p13
 try clear q13
 try clear hx13
 try clear c14
 try clear c16
 try clear c16b0
 try clear c17
 try clear c17b0
 try clear p18
 try clear q18
 try clear hx18
 try clear c20
 try clear c20b0
 try clear c21
 try clear c21b0
 try clear c22
 try clear c22b0
 try clear c24
 try clear c24b0
 try clear c25
 try clear c25b0
 try clear p26
 try clear q26
 try clear hx26
 try clear c27
 try clear c27b0
 try clear c27b1
 try clear c29
 try clear c29b0
 try clear p30
 try clear q30
 try clear hx30
 try clear p1
 try clear p13
 try clear p18
 try clear p2
 try clear p26
 try clear p30
 try clear p5
 try clear p6
 try clear q1
 try clear q13
 try clear q18
 try clear q26
 try clear q30
 try clear q5
 obtain ⟨kq,x74_18,rfl,HA,HJ18,⟨mc18,rfl⟩⟩:=hcut
 cases kq with
 |zero=>exact absurd HA.out (by simp [bookplateref04_at.j1])
 |succ kj18=>
  (
 have H:=HA.out
 clear HA
 simp only [bookplateref04_at.j1] at H
 by_cases c31:x74_18=true
 {
 subst c31
 replace H:=tp_ H
 obtain ⟨ji32,hji32⟩:∃ j_:Int,(wrap64 (a1+1))=j_:=⟨_,rfl⟩
 replace H:(if 0≤(ji32) then (if (ji32)<(a0.size:Int) then (if 0≤(wrap64 (a1+2)) then (if (wrap64 (a1+2))<(a0.size:Int) then (if (wrap64 ((wrap64 ((wrap64 ((wrap64 ((wrap64 (bt a0 a1)) - 224)) * 4096))+((((bt a0 (ji32)) - 128) % 256) * 64)))+(((bt a0 (wrap64 (a1+2))) - 128) % 256)))≥2048 then (some (wrap64 ((wrap64 ((wrap64 ((wrap64 ((wrap64 (bt a0 a1)) - 224)) * 4096))+((((bt a0 (ji32)) - 128) % 256) * 64)))+(((bt a0 (wrap64 (a1+2))) - 128) % 256)),3)) else (some (0,0))) else (none)) else (none)) else (none)) else (none))=some (r1,r2):=by first|(rw [hji32] at H;exact H)|(simp only [hji32] at H⊢;exact H)
 have hji32w:(IntKind.i64.wrap (a1+1))=ji32:=(i64_w _).trans hji32
 by_cases c33:0≤(ji32)
 {
 rw [if_pos c33] at H
 have c33b0:decide (0≤(ji32))=true:=decide_eq_true c33
 clear c33
 by_cases c34:(ji32)<(a0.size:Int)
 {
 rw [if_pos c34] at H
 have c34b0:decide ((ji32)<(a0.size:Int))=true:=decide_eq_true c34
 clear c34
 obtain ⟨ji36,hji36⟩:∃ j_:Int,(wrap64 (a1+2))=j_:=⟨_,rfl⟩
 replace H:(if 0≤(ji36) then (if (ji36)<(a0.size:Int) then (if (wrap64 ((wrap64 ((wrap64 ((wrap64 ((wrap64 (bt a0 a1)) - 224)) * 4096))+((((bt a0 (ji32)) - 128) % 256) * 64)))+(((bt a0 (ji36)) - 128) % 256)))≥2048 then (some (wrap64 ((wrap64 ((wrap64 ((wrap64 ((wrap64 (bt a0 a1)) - 224)) * 4096))+((((bt a0 (ji32)) - 128) % 256) * 64)))+(((bt a0 (ji36)) - 128) % 256)),3)) else (some (0,0))) else (none)) else (none))=some (r1,r2):=by first|(rw [hji36] at H;exact H)|(simp only [hji36] at H⊢;exact H)
 have hji36w:(IntKind.i64.wrap (a1+2))=ji36:=(i64_w _).trans hji36
 by_cases c37:0≤(ji36)
 {
 rw [if_pos c37] at H
 have c37b0:decide (0≤(ji36))=true:=decide_eq_true c37
 clear c37
 by_cases c38:(ji36)<(a0.size:Int)
 {
 rw [if_pos c38] at H
 have c38b0:decide ((ji36)<(a0.size:Int))=true:=decide_eq_true c38
 clear c38
 by_cases c40:(wrap64 ((wrap64 ((wrap64 ((wrap64 ((wrap64 (bt a0 a1)) - 224)) * 4096))+((((bt a0 (ji32)) - 128) % 256) * 64)))+(((bt a0 (ji36)) - 128) % 256)))≥2048
 {
 rw [if_pos c40] at H
 have c40b0:decide (2048≤(wrap64 ((wrap64 ((wrap64 ((wrap64 ((wrap64 (bt a0 a1)) - 224)) * 4096))+((((bt a0 (ji32)) - 128) % 256) * 64)))+(((bt a0 (ji36)) - 128) % 256))))=true:=decide_eq_true c40
 clear c40
 simp only [Option.some.injEq,Prod.mk.injEq] at H
 obtain ⟨rfl,rfl⟩:=H
 have p35:0≤((ji32):Int):=od_
 have q35:(ji32)<(a0.size:Int):=od_
 have hx35:=bt_at a0 (ji32)
 replace p35:=eq_true p35
 replace q35:=eq_true q35
 have p39:0≤((ji36):Int):=od_
 have q39:(ji36)<(a0.size:Int):=od_
 have hx39:=bt_at a0 (ji36)
 replace p39:=eq_true p39
 replace q39:=eq_true q39
 go_wp2
 repeat (go_quiet (fail);try go_wp2)
 go_ret2
 exact ⟨by first|rfl|(simp;done)|(simp only [←hji32,←hji36]<;>(first|rfl|simp))|(simp [*];done),d0_⟩
 }
 {
 rw [if_neg c40] at H
 have c40b0:decide (2048≤(wrap64 ((wrap64 ((wrap64 ((wrap64 ((wrap64 (bt a0 a1)) - 224)) * 4096))+((((bt a0 (ji32)) - 128) % 256) * 64)))+(((bt a0 (ji36)) - 128) % 256))))=false:=decide_eq_false c40
 clear c40
 simp only [Option.some.injEq,Prod.mk.injEq] at H
 obtain ⟨rfl,rfl⟩:=H
 have p35:0≤((ji32):Int):=od_
 have q35:(ji32)<(a0.size:Int):=od_
 have hx35:=bt_at a0 (ji32)
 replace p35:=eq_true p35
 replace q35:=eq_true q35
 have p39:0≤((ji36):Int):=od_
 have q39:(ji36)<(a0.size:Int):=od_
 have hx39:=bt_at a0 (ji36)
 replace p39:=eq_true p39
 replace q39:=eq_true q39
 go_wp2
 repeat (go_quiet (fail);try go_wp2)
 go_ret2
 exact ⟨by first|rfl|(simp;done)|(simp only [←hji32,←hji36]<;>(first|rfl|simp))|(simp [*];done),d0_⟩
 }
 }
 {
 rw [if_neg c38] at H
 exact absurd H (by simp)
 }
 }
 {
 rw [if_neg c37] at H
 exact absurd H (by simp)
 }
 }
 {
 rw [if_neg c34] at H
 exact absurd H (by simp)
 }
 }
 {
 rw [if_neg c33] at H
 exact absurd H (by simp)
 }
 }
 {
 replace c31:=Bool.eq_false_iff.mpr c31
 subst c31
 replace H:=fn_ H
 simp only [Option.some.injEq,Prod.mk.injEq] at H
 obtain ⟨rfl,rfl⟩:=H
 go_wp2
 repeat (go_quiet (fail);try go_wp2)
 go_ret2
 exact ⟨r0_,d0_⟩
 }
  )
  )
 }
  )
  )
 }
 }
 {
 rw [if_neg c4] at H
 exact absurd H (by simp)
 }
 }
 {
 rw [if_neg c3] at H
 exact absurd H (by simp)
 }
end
end Go.Proofs.YtdlolaognnbhpaaDoor.Pr
namespace Go.Proofs.YtdlolaognnbhpaaDoor.Pr
open Go.RowKit Go.Proofs.YtdlolaognnbhpaaDoorW.PrintWords Go.Proofs.YtdlolaognnbhpaaDoorW.PrintLast Go.Proofs.YtdlolaognnbhpaaDoorW.PrintMore
noncomputable section
attribute [local go_sem] max2_int min2_int max_two min_two max_three min_three max_four min_four
set_option linter.unusedVariables false
set_option linter.unusedSimpArgs false
def bookplateref04_in.f (a0:Int) (a1:Int) (a2:Int):Option (Bool):=if a0≥a1 then (some (decide (a0≤a2))) else (some false)
set_option maxHeartbeats 8000000 in
set_option maxRecDepth 100000 in
theorem bookplateref04_in.calls (a0:Int) (a1:Int) (a2:Int) (r:Bool) (w:World) (h:bookplateref04_in.f a0 a1 a2=some r):
 Calls Tryd.prog 88 #[.int .i64 a0,.int .i64 a1,.int .i64 a2] w fun e w'=>e= .returned (.bool r)∧Drawn0 w w':=by
 have H:(if a0≥a1 then (some (decide (a0≤a2))) else (some false))=some r:=h
 clear h
 by_cases c4:a0≥a1
 {
 rw [if_pos c4] at H
 have c4b0:decide (a1≤a0)=true:=decide_eq_true c4
 clear c4
 obtain rfl:=Option.some.inj H
 go_enter Tryd.func88,Tryd.ntmps88
 go_wp2
 go_ret
 exact ⟨r0_,d0_⟩
 }
 {
 rw [if_neg c4] at H
 have c4b0:decide (a1≤a0)=false:=decide_eq_false c4
 clear c4
 obtain rfl:=Option.some.inj H
 go_enter Tryd.func88,Tryd.ntmps88
 go_wp2
 go_ret
 exact ⟨r0_,d0_⟩
 }
def bookplateref04_listed.l0:Nat→ByteArray→Int→Int→Option (Bool)
 |0,_,_,_=>none
 |k+1,x0,x1,x5=>if x5<(x0.size:Int) then ((bookplateref04_at.f k x0 x5).bind fun bt329=>(if bt329.1=x1 then (some true) else (bookplateref04_listed.l0 k x0 x1 (wrap64 (x5+bt329.2))))) else (some false)
def bookplateref04_listed.f (k:Nat) (a0:ByteArray) (a1:Int):Option (Bool):=bookplateref04_listed.l0 k a0 a1 0
set_option maxHeartbeats 8000000 in
set_option maxRecDepth 100000 in
theorem bookplateref04_listed.calls (k:Nat) (a0:ByteArray) (a1:Int) (r:Bool) (w:World) (h:bookplateref04_listed.f k a0 a1=some r):
 Calls Tryd.prog 89 #[.string a0,.int .i64 a1] w fun e w'=>e= .returned (.bool r)∧Drawn0 w w':=by
 have H:(bookplateref04_listed.l0 k a0 a1 0)=some r:=h
 clear h
 have H':=Aside0.mk H
 clear H
 go_enter Tryd.func89,Tryd.ntmps89
 go_wp2
 go_loopg [5] k (fun kq v5 w'=>∃ (x5_1:Int),v5= .int .i64 x5_1∧Aside0 (bookplateref04_listed.l0 kq a0 a1 x5_1=some r)∧Aside0 (kq≤k)∧Drawn0 w w')
 case atStart=>exact ⟨(0),r0_,H',⟨Nat.le_refl _⟩,d0_⟩
 case round=>
  (
 clear H'
 try clear p2
 obtain ⟨x5_1,rfl,HA,HK1,⟨m1,rfl⟩⟩:=hrel
 cases gk with
 |zero=>exact absurd HA.out (by simp [bookplateref04_listed.l0])
 |succ k1=>
  (
 have H:=HA.out
 clear HA
 simp only [bookplateref04_listed.l0] at H
 by_cases c3:x5_1<(a0.size:Int)
 {
 rw [if_pos c3] at H
 have c3b0:decide (x5_1<(a0.size:Int))=true:=decide_eq_true c3
 clear c3
 replace H:=Option.bind_eq_some_iff.mp H
 obtain ⟨⟨t329,t330⟩,A40,H⟩:=H
 replace H:(if t329=a1 then (some true) else (bookplateref04_listed.l0 k1 a0 a1 (wrap64 (x5_1+t330))))=some r:=H
 have A4:=Aside0.mk A40
 clear A40
 by_cases c5:t329=a1
 {
 rw [if_pos c5] at H
 have c5b0:(t329==a1)=true:=beq_iff_eq.mpr c5
 have c5b1:(t329 !=a1)=false:=bne_eq_false_iff_eq.mpr c5
 clear c5
 obtain rfl:=Option.some.inj H
 go_wp2_with (first|((with_reducible refine gate_callee (f:=75) rfl ?_);refine gl_ (some 15) Tryd.func75 #[.string a0,.int .i64 x5_1] ?_;(with_reducible refine (bookplateref04_at.calls k1 a0 x5_1 t329 t330 _ A4.out).mono ?_);rintro e w' ⟨rfl,⟨nd,rfl⟩⟩;refine ⟨_,rfl,?_⟩))
 go_ret
 exact ⟨r0_,d0_⟩
 }
 {
 rw [if_neg c5] at H
 have c5b0:(t329==a1)=false:=beq_eq_false_iff_ne.mpr c5
 have c5b1:(t329 !=a1)=true:=bne_iff_ne.mpr c5
 have H':=Aside0.mk H
 clear H
 go_wp2_with (first|((with_reducible refine gate_callee (f:=75) rfl ?_);refine gl_ (some 15) Tryd.func75 #[.string a0,.int .i64 x5_1] ?_;(with_reducible refine (bookplateref04_at.calls k1 a0 x5_1 t329 t330 _ A4.out).mono ?_);rintro e w' ⟨rfl,⟨nd,rfl⟩⟩;refine ⟨_,rfl,?_⟩))
 go_roundg k1
 case measure=>have:=HK1.out;omega
 case rel=>exact ⟨(wrap64 (x5_1+t330)),r0_,H',⟨by have:=HK1.out;omega⟩,d0_⟩
 }
 }
 {
 rw [if_neg c3] at H
 have c3b0:decide (x5_1<(a0.size:Int))=false:=decide_eq_false c3
 clear c3
 obtain rfl:=Option.some.inj H
 go_wp2
 go_ret
 exact ⟨r0_,d0_⟩
 }
  )
  )
end
end Go.Proofs.YtdlolaognnbhpaaDoor.Pr
namespace Go.Proofs.YtdlolaognnbhpaaDoor.Pr
open Go.RowKit Go.Proofs.YtdlolaognnbhpaaDoorW.PrintWords Go.Proofs.YtdlolaognnbhpaaDoorW.PrintLast Go.Proofs.YtdlolaognnbhpaaDoorW.PrintMore
noncomputable section
attribute [local go_sem] max2_int min2_int max_two min_two max_three min_three max_four min_four
set_option linter.unusedVariables false
set_option linter.unusedSimpArgs false
mutual
def bookplateref04_Class.j0:Nat→Int→Option (Int×Int)
 |0,_=>none
 |k+1,x0=>if x0=32 then (bookplateref04_Class.j1 k x0 true) else (bookplateref04_Class.j1 k x0 (x0==160))
def bookplateref04_Class.j1:Nat→Int→Bool→Option (Int×Int)
 |0,_,_=>none
 |k+1,x0,x8=>if x8=true then (some (0,4)) else ((bookplateref04_in.f x0 48 57).bind fun t332=>(if t332=true then (bookplateref04_Class.j2 k x0 true) else (if x0=178 then (bookplateref04_Class.j2 k x0 true) else (if x0=179 then (bookplateref04_Class.j2 k x0 true) else (bookplateref04_Class.j2 k x0 (x0==185))))))
def bookplateref04_Class.j2:Nat→Int→Bool→Option (Int×Int)
 |0,_,_=>none
 |k+1,x0,x15=>if x15=true then (some (0,3)) else ((bookplateref04_in.f x0 65 90).bind fun t333=>(if t333=true then (bookplateref04_Class.j3 k x0 true) else ((bookplateref04_in.f x0 97 122).bind fun t334=>(if t334=true then (bookplateref04_Class.j3 k x0 true) else (if x0=383 then (bookplateref04_Class.j3 k x0 true) else (if x0=64257 then (bookplateref04_Class.j3 k x0 true) else (if x0=64258 then (bookplateref04_Class.j3 k x0 true) else ((bookplateref04_listed.f k (⟨#[195,128,195,136,195,140,195,146,195,153,195,160,195,168,195,172,195,178,195,185,195,129,195,137,195,141,195,147,195,154,195,157,195,161,195,169,195,173,195,179,195,186,195,189,196,134,196,135,196,185,196,186,197,131,197,132,197,148,197,149,197,154,197,155,197,185,197,186,195,130,195,138,195,142,195,148,195,155,195,162,195,170,195,174,195,180,195,187,196,136,196,137,196,156,196,157,196,164,196,165,196,180,196,181,197,156,197,157,197,180,197,181,197,182,197,183,195,131,195,145,195,149,195,163,195,177,195,181,196,168,196,169,197,168,197,169,196,128,196,129,196,146,196,147,196,170,196,171,197,140,197,141,197,170,197,171,196,130,196,131,196,148,196,149,196,158,196,159,196,172,196,173,197,142,197,143,197,172,197,173,196,138,196,139,196,150,196,151,196,160,196,161,196,176,197,187,197,188,195,132,195,139,195,143,195,150,195,156,195,164,195,171,195,175,195,182,195,188,195,191,197,184,195,133,195,165,197,174,197,175,197,144,197,145,197,176,197,177,196,140,196,141,196,142,196,143,196,154,196,155,197,135,197,136,197,152,197,153,197,160,197,161,197,164,197,165,197,189,197,190,196,189,196,190,195,135,195,167,196,162,196,163,196,182,196,183,196,187,196,188,197,133,197,134,197,150,197,151,197,158,197,159,197,162,197,163,196,132,196,133,196,152,196,153,196,174,196,175,197,178,197,179,195,134,195,166,195,152,195,184,195,144,195,176,195,158,195,190,195,159,196,144,196,145,196,166,196,167,196,177,197,129,197,130,197,146,197,147,197,138,197,139,197,166,197,167]⟩:ByteArray) x0).bind fun t335=>(bookplateref04_Class.j3 k x0 t335)))))))))
def bookplateref04_Class.j3:Nat→Int→Bool→Option (Int×Int)
 |0,_,_=>none
 |k+1,x0,x30=>if x30=true then (some (1,1)) else ((bookplateref04_in.f x0 768 772).bind fun t336=>(if t336=true then (bookplateref04_Class.j4 k x0 true) else ((bookplateref04_in.f x0 774 776).bind fun t337=>(if t337=true then (bookplateref04_Class.j4 k x0 true) else ((bookplateref04_in.f x0 778 780).bind fun t338=>(if t338=true then (bookplateref04_Class.j4 k x0 true) else (if x0=803 then (bookplateref04_Class.j4 k x0 true) else (if x0=807 then (bookplateref04_Class.j4 k x0 true) else (bookplateref04_Class.j4 k x0 (x0==808))))))))))
def bookplateref04_Class.j4:Nat→Int→Bool→Option (Int×Int)
 |0,_,_=>none
 |k+1,x0,x53=>if x53=true then (some (0,2)) else ((bookplateref04_in.f x0 913 929).bind fun t339=>(if t339=true then (bookplateref04_Class.j5 k x0 true) else ((bookplateref04_in.f x0 931 937).bind fun t340=>(if t340=true then (bookplateref04_Class.j5 k x0 true) else ((bookplateref04_in.f x0 945 969).bind fun t341=>(if t341=true then (bookplateref04_Class.j5 k x0 true) else ((bookplateref04_listed.f k (⟨#[206,134,206,136,206,137,206,138,206,140,206,142,206,143,206,172,206,173,206,174,206,175,207,140,207,141,207,142,206,170,206,171,207,138,207,139]⟩:ByteArray) x0).bind fun t342=>(bookplateref04_Class.j5 k x0 t342))))))))
def bookplateref04_Class.j5:Nat→Int→Bool→Option (Int×Int)
 |0,_,_=>none
 |k+1,x0,x76=>if x76=true then (some (2,1)) else ((bookplateref04_in.f x0 1040 1103).bind fun t343=>(if t343=true then (bookplateref04_Class.j6 k x0 true) else ((bookplateref04_listed.f k (⟨#[208,129,209,145,208,135,209,151,208,132,209,148,210,144,210,145,208,142,209,158,208,134,209,150]⟩:ByteArray) x0).bind fun t344=>(bookplateref04_Class.j6 k x0 t344))))
def bookplateref04_Class.j6:Nat→Int→Bool→Option (Int×Int)
 |0,_,_=>none
 |k+1,x0,x91=>if x91=true then (some (3,1)) else ((bookplateref04_in.f x0 33 126).bind fun t345=>(if t345=true then (some (0,5)) else (some (0,0))))
end
def bookplateref04_Class.f (k:Nat) (a0:Int):Option (Int×Int):=(bookplateref04_in.f a0 65281 65374).bind fun t331=>(if t331=true then (bookplateref04_Class.j0 k (wrap64 (a0 - 65248))) else (bookplateref04_Class.j0 k a0))
set_option maxHeartbeats 8000000 in
set_option maxRecDepth 100000 in
theorem bookplateref04_Class.calls (k:Nat) (a0:Int) (r1:Int) (r2:Int) (w:World) (h:bookplateref04_Class.f k a0=some (r1,r2)):
 Calls Tryd.prog 82 #[.int .i64 a0] w fun e w'=>e= .returned (.tuple #[.int .i64 r1,.int .i64 r2])∧Drawn0 w w':=by
 have H:((bookplateref04_in.f a0 65281 65374).bind fun t331=>(if t331=true then (bookplateref04_Class.j0 k (wrap64 (a0 - 65248))) else (bookplateref04_Class.j0 k a0)))=some (r1,r2):=h
 clear h
 obtain ⟨t331,A2,H⟩:=ob_ H
 have HC3:=Aside0.mk H
 clear H
 go_enter Tryd.func82,Tryd.ntmps82
 go_upto_if 5 with (first|((with_reducible refine gate_callee (f:=88) rfl ?_);refine gl_ (some 5) Tryd.func88 #[.int .i64 a0,.int .i64 65281,.int .i64 65374] ?_;(with_reducible refine (bookplateref04_in.calls a0 65281 65374 t331 _ A2.out).mono ?_);rintro e w' ⟨rfl,⟨nd,rfl⟩⟩;refine ⟨_,rfl,?_⟩))
 (try simp only [Act.put,List.setIfInBounds_toArray,List.set_cons_zero,List.set_cons_succ])
 go_cut [0] (fun v0 wc=>∃ (kq:Nat) (x0_2:Int),v0= .int .i64 x0_2∧Aside0 (bookplateref04_Class.j0 kq x0_2=some (r1,r2))∧Aside0 (kq≤k)∧Drawn0 w wc)
 case first=>
  (
 have H:=HC3.out
 clear HC3
 by_cases c4:t331=true
 {
 subst c4
 replace H:=tp_ H
 have H':=Aside0.mk H
 clear H
 go_wp2
 go_meet
 case rel=>exact ⟨_,(wrap64 (a0 - 65248)),r0_,H',⟨by first|omega|exact Nat.le_refl _⟩,d0_⟩
 }
 {
 replace c4:=Bool.eq_false_iff.mpr c4
 subst c4
 replace H:=fn_ H
 have H':=Aside0.mk H
 clear H
 go_wp2
 go_meet
 case rel=>exact ⟨_,(a0),r0_,H',⟨by first|omega|exact Nat.le_refl _⟩,d0_⟩
 }
  )
 case rest=>
  (
 clear HC3
 try clear p2
 try clear c4
 obtain ⟨kq,x0_2,rfl,HA,HJ2,⟨mc2,rfl⟩⟩:=hcut
 cases kq with
 |zero=>exact absurd HA.out (by simp [bookplateref04_Class.j0])
 |succ kj2=>
  (
 have H:=HA.out
 clear HA
 simp only [bookplateref04_Class.j0] at H
 have HC5:=Aside0.mk H
 clear H
 go_upto_region 3 with (fail)
 go_cut [8] (fun v8 wc=>∃ (kq:Nat) (x8_4:Bool),v8= .bool x8_4∧Aside0 (bookplateref04_Class.j1 kq x0_2 x8_4=some (r1,r2))∧Aside0 (kq≤kj2)∧Drawn0 w wc)
 case first=>
  (
 have H:=HC5.out
 clear HC5
 by_cases c6:x0_2=32
 {
 rw [if_pos c6] at H
 have c6b0:(x0_2==32)=true:=beq_iff_eq.mpr c6
 have c6b1:(x0_2 !=32)=false:=bne_eq_false_iff_eq.mpr c6
 clear c6
 (first|rw [c6b0]|(simp only [i64_w,i32_w];rw [c6b0])|skip)
 have H':=Aside0.mk H
 clear H
 go_wp2
 go_meet
 case rel=>exact ⟨_,(true),r0_,H',⟨by have:=HJ2.out;first|omega|exact Nat.le_refl _⟩,d0_⟩
 }
 {
 rw [if_neg c6] at H
 have c6b0:(x0_2==32)=false:=beq_eq_false_iff_ne.mpr c6
 have c6b1:(x0_2 !=32)=true:=bne_iff_ne.mpr c6
 (first|rw [c6b0]|(simp only [i64_w,i32_w];rw [c6b0])|skip)
 have H':=Aside0.mk H
 clear H
 go_wp2
 go_meet
 case rel=>exact ⟨_,((x0_2==160)),r0_,H',⟨by have:=HJ2.out;first|omega|exact Nat.le_refl _⟩,d0_⟩
 }
  )
 case rest=>
  (
 clear HC5
 try clear c2
 try clear p2
 try clear c4
 try clear c6
 try clear c6b0
 try clear c6b1
 try clear p6
 try clear p2
 obtain ⟨kq,x8_4,rfl,HA,HJ4,⟨mc4,rfl⟩⟩:=hcut
 cases kq with
 |zero=>exact absurd HA.out (by simp [bookplateref04_Class.j1])
 |succ kj4=>
  (
 have H:=HA.out
 clear HA
 simp only [bookplateref04_Class.j1] at H
 by_cases c7:x8_4=true
 {
 subst c7
 replace H:=tp_ H
 simp only [Option.some.injEq,Prod.mk.injEq] at H
 obtain ⟨rfl,rfl⟩:=H
 go_wp2
 go_ret2
 exact ⟨r0_,d0_⟩
 }
 {
 replace c7:=Bool.eq_false_iff.mpr c7
 subst c7
 replace H:=fn_ H
 have HC8:=Aside0.mk H
 clear H
 go_upto_region 5 with (fail)
 go_cut [15] (fun v15 wc=>∃ (kq:Nat) (x15_7:Bool),v15= .bool x15_7∧Aside0 (bookplateref04_Class.j2 kq x0_2 x15_7=some (r1,r2))∧Aside0 (kq≤kj4)∧Drawn0 w wc)
 case first=>
  (
 have H:=HC8.out
 clear HC8
 obtain ⟨t332,A9,H⟩:=ob_ H
 by_cases c10:t332=true
 {
 subst c10
 replace H:=tp_ H
 have H':=Aside0.mk H
 clear H
 go_wp2_with (first|((with_reducible refine gate_callee (f:=88) rfl ?_);refine gl_ (some 17) Tryd.func88 #[.int .i64 x0_2,.int .i64 48,.int .i64 57] ?_;(with_reducible refine (bookplateref04_in.calls x0_2 48 57 true _ A9.out).mono ?_);rintro e w' ⟨rfl,⟨nd,rfl⟩⟩;refine ⟨_,rfl,?_⟩))
 go_meet
 case rel=>exact ⟨_,(true),r0_,H',⟨by have:=HJ2.out;have:=HJ4.out;first|omega|exact Nat.le_refl _⟩,d0_⟩
 }
 {
 replace c10:=Bool.eq_false_iff.mpr c10
 subst c10
 replace H:=fn_ H
 by_cases c11:x0_2=178
 {
 rw [if_pos c11] at H
 have c11b0:(x0_2==178)=true:=beq_iff_eq.mpr c11
 have c11b1:(x0_2 !=178)=false:=bne_eq_false_iff_eq.mpr c11
 clear c11
 (first|rw [c11b0]|(simp only [i64_w,i32_w];rw [c11b0])|skip)
 have H':=Aside0.mk H
 clear H
 go_wp2_with (first|((with_reducible refine gate_callee (f:=88) rfl ?_);refine gl_ (some 17) Tryd.func88 #[.int .i64 x0_2,.int .i64 48,.int .i64 57] ?_;(with_reducible refine (bookplateref04_in.calls x0_2 48 57 false _ A9.out).mono ?_);rintro e w' ⟨rfl,⟨nd,rfl⟩⟩;refine ⟨_,rfl,?_⟩))
 go_meet
 case rel=>exact ⟨_,(true),r0_,H',⟨by have:=HJ2.out;have:=HJ4.out;first|omega|exact Nat.le_refl _⟩,d0_⟩
 }
 {
 rw [if_neg c11] at H
 have c11b0:(x0_2==178)=false:=beq_eq_false_iff_ne.mpr c11
 have c11b1:(x0_2 !=178)=true:=bne_iff_ne.mpr c11
 (first|rw [c11b0]|(simp only [i64_w,i32_w];rw [c11b0])|skip)
 by_cases c12:x0_2=179
 {
 rw [if_pos c12] at H
 have c12b0:(x0_2==179)=true:=beq_iff_eq.mpr c12
 have c12b1:(x0_2 !=179)=false:=bne_eq_false_iff_eq.mpr c12
 clear c12
 have H':=Aside0.mk H
 clear H
 go_wp2_with (first|((with_reducible refine gate_callee (f:=88) rfl ?_);refine gl_ (some 17) Tryd.func88 #[.int .i64 x0_2,.int .i64 48,.int .i64 57] ?_;(with_reducible refine (bookplateref04_in.calls x0_2 48 57 false _ A9.out).mono ?_);rintro e w' ⟨rfl,⟨nd,rfl⟩⟩;refine ⟨_,rfl,?_⟩))
 go_meet
 case rel=>exact ⟨_,(true),r0_,H',⟨by have:=HJ2.out;have:=HJ4.out;first|omega|exact Nat.le_refl _⟩,d0_⟩
 }
 {
 rw [if_neg c12] at H
 have c12b0:(x0_2==179)=false:=beq_eq_false_iff_ne.mpr c12
 have c12b1:(x0_2 !=179)=true:=bne_iff_ne.mpr c12
 have H':=Aside0.mk H
 clear H
 go_wp2_with (first|((with_reducible refine gate_callee (f:=88) rfl ?_);refine gl_ (some 17) Tryd.func88 #[.int .i64 x0_2,.int .i64 48,.int .i64 57] ?_;(with_reducible refine (bookplateref04_in.calls x0_2 48 57 false _ A9.out).mono ?_);rintro e w' ⟨rfl,⟨nd,rfl⟩⟩;refine ⟨_,rfl,?_⟩))
 go_meet
 case rel=>exact ⟨_,((x0_2==185)),r0_,H',⟨by have:=HJ2.out;have:=HJ4.out;first|omega|exact Nat.le_refl _⟩,d0_⟩
 }
 }
 }
  )
 case rest=>
  (
 clear HC8
 try clear c1
 try clear c2
 try clear p2
 try clear c4
 try clear c6
 try clear c6b0
 try clear c6b1
 try clear p6
 try clear c7
 try clear c8
 try clear c10
 try clear c11
 try clear c11b0
 try clear c11b1
 try clear c12
 try clear c12b0
 try clear c12b1
 try clear p2
 try clear p6
 obtain ⟨kq,x15_7,rfl,HA,HJ7,⟨mc7,rfl⟩⟩:=hcut
 cases kq with
 |zero=>exact absurd HA.out (by simp [bookplateref04_Class.j2])
 |succ kj7=>
  (
 have H:=HA.out
 clear HA
 simp only [bookplateref04_Class.j2] at H
 by_cases c13:x15_7=true
 {
 subst c13
 replace H:=tp_ H
 simp only [Option.some.injEq,Prod.mk.injEq] at H
 obtain ⟨rfl,rfl⟩:=H
 go_wp2
 go_ret2
 exact ⟨r0_,d0_⟩
 }
 {
 replace c13:=Bool.eq_false_iff.mpr c13
 subst c13
 replace H:=fn_ H
 have HC14:=Aside0.mk H
 clear H
 go_upto_region 7 with (fail)
 go_cut [30] (fun v30 wc=>∃ (kq:Nat) (x30_13:Bool),v30= .bool x30_13∧Aside0 (bookplateref04_Class.j3 kq x0_2 x30_13=some (r1,r2))∧Aside0 (kq≤kj7)∧Drawn0 w wc)
 case first=>
  (
 have H:=HC14.out
 clear HC14
 obtain ⟨t333,A15,H⟩:=ob_ H
 by_cases c16:t333=true
 {
 subst c16
 replace H:=tp_ H
 have H':=Aside0.mk H
 clear H
 go_wp2_with (first|((with_reducible refine gate_callee (f:=88) rfl ?_);refine gl_ (some 32) Tryd.func88 #[.int .i64 x0_2,.int .i64 65,.int .i64 90] ?_;(with_reducible refine (bookplateref04_in.calls x0_2 65 90 true _ A15.out).mono ?_);rintro e w' ⟨rfl,⟨nd,rfl⟩⟩;refine ⟨_,rfl,?_⟩))
 go_meet
 case rel=>exact ⟨_,(true),r0_,H',⟨by have:=HJ2.out;have:=HJ4.out;have:=HJ7.out;first|omega|exact Nat.le_refl _⟩,d0_⟩
 }
 {
 replace c16:=Bool.eq_false_iff.mpr c16
 subst c16
 replace H:=fn_ H
 obtain ⟨t334,A17,H⟩:=ob_ H
 by_cases c18:t334=true
 {
 subst c18
 replace H:=tp_ H
 have H':=Aside0.mk H
 clear H
 go_wp2_with (first|((with_reducible refine gate_callee (f:=88) rfl ?_);refine gl_ (some 32) Tryd.func88 #[.int .i64 x0_2,.int .i64 65,.int .i64 90] ?_;(with_reducible refine (bookplateref04_in.calls x0_2 65 90 false _ A15.out).mono ?_);rintro e w' ⟨rfl,⟨nd,rfl⟩⟩;refine ⟨_,rfl,?_⟩)|(go_at_call 88;(with_reducible refine (bookplateref04_in.calls x0_2 97 122 true _ A17.out).mono ?_);rintro e w' ⟨rfl,⟨nd,rfl⟩⟩))
 go_meet
 case rel=>exact ⟨_,(true),r0_,H',⟨by have:=HJ2.out;have:=HJ4.out;have:=HJ7.out;first|omega|exact Nat.le_refl _⟩,d0_⟩
 }
 {
 replace c18:=Bool.eq_false_iff.mpr c18
 subst c18
 replace H:=fn_ H
 by_cases c19:x0_2=383
 {
 rw [if_pos c19] at H
 have c19b0:(x0_2==383)=true:=beq_iff_eq.mpr c19
 have c19b1:(x0_2 !=383)=false:=bne_eq_false_iff_eq.mpr c19
 clear c19
 (first|rw [c19b0]|(simp only [i64_w,i32_w];rw [c19b0])|skip)
 have H':=Aside0.mk H
 clear H
 go_wp2_with (first|((with_reducible refine gate_callee (f:=88) rfl ?_);refine gl_ (some 32) Tryd.func88 #[.int .i64 x0_2,.int .i64 65,.int .i64 90] ?_;(with_reducible refine (bookplateref04_in.calls x0_2 65 90 false _ A15.out).mono ?_);rintro e w' ⟨rfl,⟨nd,rfl⟩⟩;refine ⟨_,rfl,?_⟩)|(go_at_call 88;(with_reducible refine (bookplateref04_in.calls x0_2 97 122 false _ A17.out).mono ?_);rintro e w' ⟨rfl,⟨nd,rfl⟩⟩))
 go_meet
 case rel=>exact ⟨_,(true),r0_,H',⟨by have:=HJ2.out;have:=HJ4.out;have:=HJ7.out;first|omega|exact Nat.le_refl _⟩,d0_⟩
 }
 {
 rw [if_neg c19] at H
 have c19b0:(x0_2==383)=false:=beq_eq_false_iff_ne.mpr c19
 have c19b1:(x0_2 !=383)=true:=bne_iff_ne.mpr c19
 (first|rw [c19b0]|(simp only [i64_w,i32_w];rw [c19b0])|skip)
 by_cases c20:x0_2=64257
 {
 rw [if_pos c20] at H
 have c20b0:(x0_2==64257)=true:=beq_iff_eq.mpr c20
 have c20b1:(x0_2 !=64257)=false:=bne_eq_false_iff_eq.mpr c20
 clear c20
 have H':=Aside0.mk H
 clear H
 go_wp2_with (first|((with_reducible refine gate_callee (f:=88) rfl ?_);refine gl_ (some 32) Tryd.func88 #[.int .i64 x0_2,.int .i64 65,.int .i64 90] ?_;(with_reducible refine (bookplateref04_in.calls x0_2 65 90 false _ A15.out).mono ?_);rintro e w' ⟨rfl,⟨nd,rfl⟩⟩;refine ⟨_,rfl,?_⟩)|(go_at_call 88;(with_reducible refine (bookplateref04_in.calls x0_2 97 122 false _ A17.out).mono ?_);rintro e w' ⟨rfl,⟨nd,rfl⟩⟩))
 go_meet
 case rel=>exact ⟨_,(true),r0_,H',⟨by have:=HJ2.out;have:=HJ4.out;have:=HJ7.out;first|omega|exact Nat.le_refl _⟩,d0_⟩
 }
 {
 rw [if_neg c20] at H
 have c20b0:(x0_2==64257)=false:=beq_eq_false_iff_ne.mpr c20
 have c20b1:(x0_2 !=64257)=true:=bne_iff_ne.mpr c20
 by_cases c21:x0_2=64258
 {
 rw [if_pos c21] at H
 have c21b0:(x0_2==64258)=true:=beq_iff_eq.mpr c21
 have c21b1:(x0_2 !=64258)=false:=bne_eq_false_iff_eq.mpr c21
 clear c21
 have H':=Aside0.mk H
 clear H
 go_wp2_with (first|((with_reducible refine gate_callee (f:=88) rfl ?_);refine gl_ (some 32) Tryd.func88 #[.int .i64 x0_2,.int .i64 65,.int .i64 90] ?_;(with_reducible refine (bookplateref04_in.calls x0_2 65 90 false _ A15.out).mono ?_);rintro e w' ⟨rfl,⟨nd,rfl⟩⟩;refine ⟨_,rfl,?_⟩)|(go_at_call 88;(with_reducible refine (bookplateref04_in.calls x0_2 97 122 false _ A17.out).mono ?_);rintro e w' ⟨rfl,⟨nd,rfl⟩⟩))
 go_meet
 case rel=>exact ⟨_,(true),r0_,H',⟨by have:=HJ2.out;have:=HJ4.out;have:=HJ7.out;first|omega|exact Nat.le_refl _⟩,d0_⟩
 }
 {
 rw [if_neg c21] at H
 have c21b0:(x0_2==64258)=false:=beq_eq_false_iff_ne.mpr c21
 have c21b1:(x0_2 !=64258)=true:=bne_iff_ne.mpr c21
 obtain ⟨t335,A22,H⟩:=ob_ H
 have H':=Aside0.mk H
 clear H
 go_wp2_with (first|((with_reducible refine gate_callee (f:=88) rfl ?_);refine gl_ (some 32) Tryd.func88 #[.int .i64 x0_2,.int .i64 65,.int .i64 90] ?_;(with_reducible refine (bookplateref04_in.calls x0_2 65 90 false _ A15.out).mono ?_);rintro e w' ⟨rfl,⟨nd,rfl⟩⟩;refine ⟨_,rfl,?_⟩)|(go_at_call 88;(with_reducible refine (bookplateref04_in.calls x0_2 97 122 false _ A17.out).mono ?_);rintro e w' ⟨rfl,⟨nd,rfl⟩⟩)|(go_at_call 89;(with_reducible refine (bookplateref04_listed.calls kj7 (⟨#[195,128,195,136,195,140,195,146,195,153,195,160,195,168,195,172,195,178,195,185,195,129,195,137,195,141,195,147,195,154,195,157,195,161,195,169,195,173,195,179,195,186,195,189,196,134,196,135,196,185,196,186,197,131,197,132,197,148,197,149,197,154,197,155,197,185,197,186,195,130,195,138,195,142,195,148,195,155,195,162,195,170,195,174,195,180,195,187,196,136,196,137,196,156,196,157,196,164,196,165,196,180,196,181,197,156,197,157,197,180,197,181,197,182,197,183,195,131,195,145,195,149,195,163,195,177,195,181,196,168,196,169,197,168,197,169,196,128,196,129,196,146,196,147,196,170,196,171,197,140,197,141,197,170,197,171,196,130,196,131,196,148,196,149,196,158,196,159,196,172,196,173,197,142,197,143,197,172,197,173,196,138,196,139,196,150,196,151,196,160,196,161,196,176,197,187,197,188,195,132,195,139,195,143,195,150,195,156,195,164,195,171,195,175,195,182,195,188,195,191,197,184,195,133,195,165,197,174,197,175,197,144,197,145,197,176,197,177,196,140,196,141,196,142,196,143,196,154,196,155,197,135,197,136,197,152,197,153,197,160,197,161,197,164,197,165,197,189,197,190,196,189,196,190,195,135,195,167,196,162,196,163,196,182,196,183,196,187,196,188,197,133,197,134,197,150,197,151,197,158,197,159,197,162,197,163,196,132,196,133,196,152,196,153,196,174,196,175,197,178,197,179,195,134,195,166,195,152,195,184,195,144,195,176,195,158,195,190,195,159,196,144,196,145,196,166,196,167,196,177,197,129,197,130,197,146,197,147,197,138,197,139,197,166,197,167]⟩:ByteArray) x0_2 t335 _ A22.out).mono ?_);rintro e w' ⟨rfl,⟨nd,rfl⟩⟩))
 go_meet
 case rel=>exact ⟨_,(t335),r0_,H',⟨by have:=HJ2.out;have:=HJ4.out;have:=HJ7.out;first|omega|exact Nat.le_refl _⟩,d0_⟩
 }
 }
 }
 }
 }
  )
 case rest=>
  (
 clear HC14
 try clear c1
 try clear c2
 try clear p2
 try clear c4
 try clear c6
 try clear c6b0
 try clear c6b1
 try clear p6
 try clear c7
 try clear c8
 try clear c10
 try clear c11
 try clear c11b0
 try clear c11b1
 try clear c12
 try clear c12b0
 try clear c12b1
 try clear c13
 try clear c16
 try clear c18
 try clear c19
 try clear c19b0
 try clear c19b1
 try clear c20
 try clear c20b0
 try clear c20b1
 try clear c21
 try clear c21b0
 try clear c21b1
 try clear p2
 try clear p6
 obtain ⟨kq,x30_13,rfl,HA,HJ13,⟨mc13,rfl⟩⟩:=hcut
 cases kq with
 |zero=>exact absurd HA.out (by simp [bookplateref04_Class.j3])
 |succ kj13=>
  (
 have H:=HA.out
 clear HA
 simp only [bookplateref04_Class.j3] at H
 by_cases c23:x30_13=true
 {
 subst c23
 replace H:=tp_ H
 simp only [Option.some.injEq,Prod.mk.injEq] at H
 obtain ⟨rfl,rfl⟩:=H
 go_wp2
 go_ret2
 exact ⟨r0_,d0_⟩
 }
 {
 replace c23:=Bool.eq_false_iff.mpr c23
 subst c23
 replace H:=fn_ H
 have HC24:=Aside0.mk H
 clear H
 go_upto_region 9 with (fail)
 go_cut [53] (fun v53 wc=>∃ (kq:Nat) (x53_23:Bool),v53= .bool x53_23∧Aside0 (bookplateref04_Class.j4 kq x0_2 x53_23=some (r1,r2))∧Aside0 (kq≤kj13)∧Drawn0 w wc)
 case first=>
  (
 have H:=HC24.out
 clear HC24
 obtain ⟨t336,A25,H⟩:=ob_ H
 by_cases c26:t336=true
 {
 subst c26
 replace H:=tp_ H
 have H':=Aside0.mk H
 clear H
 go_wp2_with (first|((with_reducible refine gate_callee (f:=88) rfl ?_);refine gl_ (some 55) Tryd.func88 #[.int .i64 x0_2,.int .i64 768,.int .i64 772] ?_;(with_reducible refine (bookplateref04_in.calls x0_2 768 772 true _ A25.out).mono ?_);rintro e w' ⟨rfl,⟨nd,rfl⟩⟩;refine ⟨_,rfl,?_⟩))
 go_meet
 case rel=>exact ⟨_,(true),r0_,H',⟨by have:=HJ2.out;have:=HJ4.out;have:=HJ7.out;have:=HJ13.out;first|omega|exact Nat.le_refl _⟩,d0_⟩
 }
 {
 replace c26:=Bool.eq_false_iff.mpr c26
 subst c26
 replace H:=fn_ H
 obtain ⟨t337,A27,H⟩:=ob_ H
 by_cases c28:t337=true
 {
 subst c28
 replace H:=tp_ H
 have H':=Aside0.mk H
 clear H
 go_wp2_with (first|((with_reducible refine gate_callee (f:=88) rfl ?_);refine gl_ (some 55) Tryd.func88 #[.int .i64 x0_2,.int .i64 768,.int .i64 772] ?_;(with_reducible refine (bookplateref04_in.calls x0_2 768 772 false _ A25.out).mono ?_);rintro e w' ⟨rfl,⟨nd,rfl⟩⟩;refine ⟨_,rfl,?_⟩)|(go_at_call 88;(with_reducible refine (bookplateref04_in.calls x0_2 774 776 true _ A27.out).mono ?_);rintro e w' ⟨rfl,⟨nd,rfl⟩⟩))
 go_meet
 case rel=>exact ⟨_,(true),r0_,H',⟨by have:=HJ2.out;have:=HJ4.out;have:=HJ7.out;have:=HJ13.out;first|omega|exact Nat.le_refl _⟩,d0_⟩
 }
 {
 replace c28:=Bool.eq_false_iff.mpr c28
 subst c28
 replace H:=fn_ H
 obtain ⟨t338,A29,H⟩:=ob_ H
 by_cases c30:t338=true
 {
 subst c30
 replace H:=tp_ H
 have H':=Aside0.mk H
 clear H
 go_wp2_with (first|((with_reducible refine gate_callee (f:=88) rfl ?_);refine gl_ (some 55) Tryd.func88 #[.int .i64 x0_2,.int .i64 768,.int .i64 772] ?_;(with_reducible refine (bookplateref04_in.calls x0_2 768 772 false _ A25.out).mono ?_);rintro e w' ⟨rfl,⟨nd,rfl⟩⟩;refine ⟨_,rfl,?_⟩)|(go_at_call 88;(with_reducible refine (bookplateref04_in.calls x0_2 774 776 false _ A27.out).mono ?_);rintro e w' ⟨rfl,⟨nd,rfl⟩⟩)|(go_at_call 88;(with_reducible refine (bookplateref04_in.calls x0_2 778 780 true _ A29.out).mono ?_);rintro e w' ⟨rfl,⟨nd,rfl⟩⟩))
 go_meet
 case rel=>exact ⟨_,(true),r0_,H',⟨by have:=HJ2.out;have:=HJ4.out;have:=HJ7.out;have:=HJ13.out;first|omega|exact Nat.le_refl _⟩,d0_⟩
 }
 {
 replace c30:=Bool.eq_false_iff.mpr c30
 subst c30
 replace H:=fn_ H
 by_cases c31:x0_2=803
 {
 rw [if_pos c31] at H
 have c31b0:(x0_2==803)=true:=beq_iff_eq.mpr c31
 have c31b1:(x0_2 !=803)=false:=bne_eq_false_iff_eq.mpr c31
 clear c31
 (first|rw [c31b0]|(simp only [i64_w,i32_w];rw [c31b0])|skip)
 have H':=Aside0.mk H
 clear H
 go_wp2_with (first|((with_reducible refine gate_callee (f:=88) rfl ?_);refine gl_ (some 55) Tryd.func88 #[.int .i64 x0_2,.int .i64 768,.int .i64 772] ?_;(with_reducible refine (bookplateref04_in.calls x0_2 768 772 false _ A25.out).mono ?_);rintro e w' ⟨rfl,⟨nd,rfl⟩⟩;refine ⟨_,rfl,?_⟩)|(go_at_call 88;(with_reducible refine (bookplateref04_in.calls x0_2 774 776 false _ A27.out).mono ?_);rintro e w' ⟨rfl,⟨nd,rfl⟩⟩)|(go_at_call 88;(with_reducible refine (bookplateref04_in.calls x0_2 778 780 false _ A29.out).mono ?_);rintro e w' ⟨rfl,⟨nd,rfl⟩⟩))
 go_meet
 case rel=>exact ⟨_,(true),r0_,H',⟨by have:=HJ2.out;have:=HJ4.out;have:=HJ7.out;have:=HJ13.out;first|omega|exact Nat.le_refl _⟩,d0_⟩
 }
 {
 rw [if_neg c31] at H
 have c31b0:(x0_2==803)=false:=beq_eq_false_iff_ne.mpr c31
 have c31b1:(x0_2 !=803)=true:=bne_iff_ne.mpr c31
 (first|rw [c31b0]|(simp only [i64_w,i32_w];rw [c31b0])|skip)
 by_cases c32:x0_2=807
 {
 rw [if_pos c32] at H
 have c32b0:(x0_2==807)=true:=beq_iff_eq.mpr c32
 have c32b1:(x0_2 !=807)=false:=bne_eq_false_iff_eq.mpr c32
 clear c32
 have H':=Aside0.mk H
 clear H
 go_wp2_with (first|((with_reducible refine gate_callee (f:=88) rfl ?_);refine gl_ (some 55) Tryd.func88 #[.int .i64 x0_2,.int .i64 768,.int .i64 772] ?_;(with_reducible refine (bookplateref04_in.calls x0_2 768 772 false _ A25.out).mono ?_);rintro e w' ⟨rfl,⟨nd,rfl⟩⟩;refine ⟨_,rfl,?_⟩)|(go_at_call 88;(with_reducible refine (bookplateref04_in.calls x0_2 774 776 false _ A27.out).mono ?_);rintro e w' ⟨rfl,⟨nd,rfl⟩⟩)|(go_at_call 88;(with_reducible refine (bookplateref04_in.calls x0_2 778 780 false _ A29.out).mono ?_);rintro e w' ⟨rfl,⟨nd,rfl⟩⟩))
 go_meet
 case rel=>exact ⟨_,(true),r0_,H',⟨by have:=HJ2.out;have:=HJ4.out;have:=HJ7.out;have:=HJ13.out;first|omega|exact Nat.le_refl _⟩,d0_⟩
 }
 {
 rw [if_neg c32] at H
 have c32b0:(x0_2==807)=false:=beq_eq_false_iff_ne.mpr c32
 have c32b1:(x0_2 !=807)=true:=bne_iff_ne.mpr c32
 have H':=Aside0.mk H
 clear H
 go_wp2_with (first|((with_reducible refine gate_callee (f:=88) rfl ?_);refine gl_ (some 55) Tryd.func88 #[.int .i64 x0_2,.int .i64 768,.int .i64 772] ?_;(with_reducible refine (bookplateref04_in.calls x0_2 768 772 false _ A25.out).mono ?_);rintro e w' ⟨rfl,⟨nd,rfl⟩⟩;refine ⟨_,rfl,?_⟩)|(go_at_call 88;(with_reducible refine (bookplateref04_in.calls x0_2 774 776 false _ A27.out).mono ?_);rintro e w' ⟨rfl,⟨nd,rfl⟩⟩)|(go_at_call 88;(with_reducible refine (bookplateref04_in.calls x0_2 778 780 false _ A29.out).mono ?_);rintro e w' ⟨rfl,⟨nd,rfl⟩⟩))
 go_meet
 case rel=>exact ⟨_,((x0_2==808)),r0_,H',⟨by have:=HJ2.out;have:=HJ4.out;have:=HJ7.out;have:=HJ13.out;first|omega|exact Nat.le_refl _⟩,d0_⟩
 }
 }
 }
 }
 }
  )
 case rest=>
  (
 clear HC24
 try clear c1
 try clear c2
 try clear p2
 try clear c3
 try clear c4
 try clear c6
 try clear c6b0
 try clear c6b1
 try clear p6
 try clear c7
 try clear c8
 try clear c10
 try clear c11
 try clear c11b0
 try clear c11b1
 try clear c12
 try clear c12b0
 try clear c12b1
 try clear c13
 try clear c16
 try clear c18
 try clear c19
 try clear c19b0
 try clear c19b1
 try clear c20
 try clear c20b0
 try clear c20b1
 try clear c21
 try clear c21b0
 try clear c21b1
 try clear c23
 try clear c26
 try clear c28
 try clear c30
 try clear c31
 try clear c31b0
 try clear c31b1
 try clear c32
 try clear c32b0
 try clear c32b1
 try clear p2
 try clear p6
 obtain ⟨kq,x53_23,rfl,HA,HJ23,⟨mc23,rfl⟩⟩:=hcut
 cases kq with
 |zero=>exact absurd HA.out (by simp [bookplateref04_Class.j4])
 |succ kj23=>
  (
 have H:=HA.out
 clear HA
 simp only [bookplateref04_Class.j4] at H
 by_cases c33:x53_23=true
 {
 subst c33
 replace H:=tp_ H
 simp only [Option.some.injEq,Prod.mk.injEq] at H
 obtain ⟨rfl,rfl⟩:=H
 go_wp2
 go_ret2
 exact ⟨r0_,d0_⟩
 }
 {
 replace c33:=Bool.eq_false_iff.mpr c33
 subst c33
 replace H:=fn_ H
 have HC34:=Aside0.mk H
 clear H
 go_upto_region 11 with (fail)
 go_cut [76] (fun v76 wc=>∃ (kq:Nat) (x76_33:Bool),v76= .bool x76_33∧Aside0 (bookplateref04_Class.j5 kq x0_2 x76_33=some (r1,r2))∧Aside0 (kq≤kj23)∧Drawn0 w wc)
 case first=>
  (
 have H:=HC34.out
 clear HC34
 obtain ⟨t339,A35,H⟩:=ob_ H
 by_cases c36:t339=true
 {
 subst c36
 replace H:=tp_ H
 have H':=Aside0.mk H
 clear H
 go_wp2_with (first|((with_reducible refine gate_callee (f:=88) rfl ?_);refine gl_ (some 78) Tryd.func88 #[.int .i64 x0_2,.int .i64 913,.int .i64 929] ?_;(with_reducible refine (bookplateref04_in.calls x0_2 913 929 true _ A35.out).mono ?_);rintro e w' ⟨rfl,⟨nd,rfl⟩⟩;refine ⟨_,rfl,?_⟩))
 go_meet
 case rel=>exact ⟨_,(true),r0_,H',⟨by have:=HJ2.out;have:=HJ4.out;have:=HJ7.out;have:=HJ13.out;have:=HJ23.out;first|omega|exact Nat.le_refl _⟩,d0_⟩
 }
 {
 replace c36:=Bool.eq_false_iff.mpr c36
 subst c36
 replace H:=fn_ H
 obtain ⟨t340,A37,H⟩:=ob_ H
 by_cases c38:t340=true
 {
 subst c38
 replace H:=tp_ H
 have H':=Aside0.mk H
 clear H
 go_wp2_with (first|((with_reducible refine gate_callee (f:=88) rfl ?_);refine gl_ (some 78) Tryd.func88 #[.int .i64 x0_2,.int .i64 913,.int .i64 929] ?_;(with_reducible refine (bookplateref04_in.calls x0_2 913 929 false _ A35.out).mono ?_);rintro e w' ⟨rfl,⟨nd,rfl⟩⟩;refine ⟨_,rfl,?_⟩)|(go_at_call 88;(with_reducible refine (bookplateref04_in.calls x0_2 931 937 true _ A37.out).mono ?_);rintro e w' ⟨rfl,⟨nd,rfl⟩⟩))
 go_meet
 case rel=>exact ⟨_,(true),r0_,H',⟨by have:=HJ2.out;have:=HJ4.out;have:=HJ7.out;have:=HJ13.out;have:=HJ23.out;first|omega|exact Nat.le_refl _⟩,d0_⟩
 }
 {
 replace c38:=Bool.eq_false_iff.mpr c38
 subst c38
 replace H:=fn_ H
 obtain ⟨t341,A39,H⟩:=ob_ H
 by_cases c40:t341=true
 {
 subst c40
 replace H:=tp_ H
 have H':=Aside0.mk H
 clear H
 go_wp2_with (first|((with_reducible refine gate_callee (f:=88) rfl ?_);refine gl_ (some 78) Tryd.func88 #[.int .i64 x0_2,.int .i64 913,.int .i64 929] ?_;(with_reducible refine (bookplateref04_in.calls x0_2 913 929 false _ A35.out).mono ?_);rintro e w' ⟨rfl,⟨nd,rfl⟩⟩;refine ⟨_,rfl,?_⟩)|(go_at_call 88;(with_reducible refine (bookplateref04_in.calls x0_2 931 937 false _ A37.out).mono ?_);rintro e w' ⟨rfl,⟨nd,rfl⟩⟩)|(go_at_call 88;(with_reducible refine (bookplateref04_in.calls x0_2 945 969 true _ A39.out).mono ?_);rintro e w' ⟨rfl,⟨nd,rfl⟩⟩))
 go_meet
 case rel=>exact ⟨_,(true),r0_,H',⟨by have:=HJ2.out;have:=HJ4.out;have:=HJ7.out;have:=HJ13.out;have:=HJ23.out;first|omega|exact Nat.le_refl _⟩,d0_⟩
 }
 {
 replace c40:=Bool.eq_false_iff.mpr c40
 subst c40
 replace H:=fn_ H
 obtain ⟨t342,A41,H⟩:=ob_ H
 have H':=Aside0.mk H
 clear H
 go_wp2_with (first|((with_reducible refine gate_callee (f:=88) rfl ?_);refine gl_ (some 78) Tryd.func88 #[.int .i64 x0_2,.int .i64 913,.int .i64 929] ?_;(with_reducible refine (bookplateref04_in.calls x0_2 913 929 false _ A35.out).mono ?_);rintro e w' ⟨rfl,⟨nd,rfl⟩⟩;refine ⟨_,rfl,?_⟩)|(go_at_call 88;(with_reducible refine (bookplateref04_in.calls x0_2 931 937 false _ A37.out).mono ?_);rintro e w' ⟨rfl,⟨nd,rfl⟩⟩)|(go_at_call 88;(with_reducible refine (bookplateref04_in.calls x0_2 945 969 false _ A39.out).mono ?_);rintro e w' ⟨rfl,⟨nd,rfl⟩⟩)|(go_at_call 89;(with_reducible refine (bookplateref04_listed.calls kj23 (⟨#[206,134,206,136,206,137,206,138,206,140,206,142,206,143,206,172,206,173,206,174,206,175,207,140,207,141,207,142,206,170,206,171,207,138,207,139]⟩:ByteArray) x0_2 t342 _ A41.out).mono ?_);rintro e w' ⟨rfl,⟨nd,rfl⟩⟩))
 go_meet
 case rel=>exact ⟨_,(t342),r0_,H',⟨by have:=HJ2.out;have:=HJ4.out;have:=HJ7.out;have:=HJ13.out;have:=HJ23.out;first|omega|exact Nat.le_refl _⟩,d0_⟩
 }
 }
 }
  )
 case rest=>
  (
 clear HC34
 try clear c1
 try clear c2
 try clear p2
 try clear c3
 try clear c4
 try clear c6
 try clear c6b0
 try clear c6b1
 try clear p6
 try clear c7
 try clear c8
 try clear c10
 try clear c11
 try clear c11b0
 try clear c11b1
 try clear c12
 try clear c12b0
 try clear c12b1
 try clear c13
 try clear c16
 try clear c18
 try clear c19
 try clear c19b0
 try clear c19b1
 try clear c20
 try clear c20b0
 try clear c20b1
 try clear c21
 try clear c21b0
 try clear c21b1
 try clear c23
 try clear c26
 try clear c28
 try clear c30
 try clear c31
 try clear c31b0
 try clear c31b1
 try clear c32
 try clear c32b0
 try clear c32b1
 try clear c33
 try clear c36
 try clear c38
 try clear c40
 try clear p2
 try clear p6
 obtain ⟨kq,x76_33,rfl,HA,HJ33,⟨mc33,rfl⟩⟩:=hcut
 cases kq with
 |zero=>exact absurd HA.out (by simp [bookplateref04_Class.j5])
 |succ kj33=>
  (
 have H:=HA.out
 clear HA
 simp only [bookplateref04_Class.j5] at H
 by_cases c42:x76_33=true
 {
 subst c42
 replace H:=tp_ H
 simp only [Option.some.injEq,Prod.mk.injEq] at H
 obtain ⟨rfl,rfl⟩:=H
 go_wp2
 go_ret2
 exact ⟨r0_,d0_⟩
 }
 {
 replace c42:=Bool.eq_false_iff.mpr c42
 subst c42
 replace H:=fn_ H
 have HC43:=Aside0.mk H
 clear H
 go_upto_region 13 with (fail)
 go_cut [91] (fun v91 wc=>∃ (kq:Nat) (x91_42:Bool),v91= .bool x91_42∧Aside0 (bookplateref04_Class.j6 kq x0_2 x91_42=some (r1,r2))∧Aside0 (kq≤kj33)∧Drawn0 w wc)
 case first=>
  (
 have H:=HC43.out
 clear HC43
 obtain ⟨t343,A44,H⟩:=ob_ H
 by_cases c45:t343=true
 {
 subst c45
 replace H:=tp_ H
 have H':=Aside0.mk H
 clear H
 go_wp2_with (first|((with_reducible refine gate_callee (f:=88) rfl ?_);refine gl_ (some 93) Tryd.func88 #[.int .i64 x0_2,.int .i64 1040,.int .i64 1103] ?_;(with_reducible refine (bookplateref04_in.calls x0_2 1040 1103 true _ A44.out).mono ?_);rintro e w' ⟨rfl,⟨nd,rfl⟩⟩;refine ⟨_,rfl,?_⟩))
 go_meet
 case rel=>exact ⟨_,(true),r0_,H',⟨by have:=HJ2.out;have:=HJ4.out;have:=HJ7.out;have:=HJ13.out;have:=HJ23.out;have:=HJ33.out;first|omega|exact Nat.le_refl _⟩,d0_⟩
 }
 {
 replace c45:=Bool.eq_false_iff.mpr c45
 subst c45
 replace H:=fn_ H
 obtain ⟨t344,A46,H⟩:=ob_ H
 have H':=Aside0.mk H
 clear H
 go_wp2_with (first|((with_reducible refine gate_callee (f:=88) rfl ?_);refine gl_ (some 93) Tryd.func88 #[.int .i64 x0_2,.int .i64 1040,.int .i64 1103] ?_;(with_reducible refine (bookplateref04_in.calls x0_2 1040 1103 false _ A44.out).mono ?_);rintro e w' ⟨rfl,⟨nd,rfl⟩⟩;refine ⟨_,rfl,?_⟩)|(go_at_call 89;(with_reducible refine (bookplateref04_listed.calls kj33 (⟨#[208,129,209,145,208,135,209,151,208,132,209,148,210,144,210,145,208,142,209,158,208,134,209,150]⟩:ByteArray) x0_2 t344 _ A46.out).mono ?_);rintro e w' ⟨rfl,⟨nd,rfl⟩⟩))
 go_meet
 case rel=>exact ⟨_,(t344),r0_,H',⟨by have:=HJ2.out;have:=HJ4.out;have:=HJ7.out;have:=HJ13.out;have:=HJ23.out;have:=HJ33.out;first|omega|exact Nat.le_refl _⟩,d0_⟩
 }
  )
 case rest=>
  (
 clear HC43
 try clear c1
 try clear c2
 try clear p2
 try clear c3
 try clear c4
 try clear c6
 try clear c6b0
 try clear c6b1
 try clear p6
 try clear c7
 try clear c8
 try clear c10
 try clear c11
 try clear c11b0
 try clear c11b1
 try clear c12
 try clear c12b0
 try clear c12b1
 try clear c13
 try clear c16
 try clear c18
 try clear c19
 try clear c19b0
 try clear c19b1
 try clear c20
 try clear c20b0
 try clear c20b1
 try clear c21
 try clear c21b0
 try clear c21b1
 try clear c23
 try clear c26
 try clear c28
 try clear c30
 try clear c31
 try clear c31b0
 try clear c31b1
 try clear c32
 try clear c32b0
 try clear c32b1
 try clear c33
 try clear c36
 try clear c38
 try clear c40
 try clear c42
 try clear c45
 try clear p2
 try clear p6
 obtain ⟨kq,x91_42,rfl,HA,HJ42,⟨mc42,rfl⟩⟩:=hcut
 cases kq with
 |zero=>exact absurd HA.out (by simp [bookplateref04_Class.j6])
 |succ kj42=>
  (
 have H:=HA.out
 clear HA
 simp only [bookplateref04_Class.j6] at H
 by_cases c47:x91_42=true
 {
 subst c47
 replace H:=tp_ H
 simp only [Option.some.injEq,Prod.mk.injEq] at H
 obtain ⟨rfl,rfl⟩:=H
 go_wp2
 go_ret2
 exact ⟨r0_,d0_⟩
 }
 {
 replace c47:=Bool.eq_false_iff.mpr c47
 subst c47
 replace H:=fn_ H
 obtain ⟨t345,A48,H⟩:=ob_ H
 by_cases c49:t345=true
 {
 subst c49
 replace H:=tp_ H
 simp only [Option.some.injEq,Prod.mk.injEq] at H
 obtain ⟨rfl,rfl⟩:=H
 go_wp2_with (first|((with_reducible refine gate_callee (f:=88) rfl ?_);refine gl_ (some 100) Tryd.func88 #[.int .i64 x0_2,.int .i64 33,.int .i64 126] ?_;(with_reducible refine (bookplateref04_in.calls x0_2 33 126 true _ A48.out).mono ?_);rintro e w' ⟨rfl,⟨nd,rfl⟩⟩;refine ⟨_,rfl,?_⟩))
 go_ret2
 exact ⟨r0_,d0_⟩
 }
 {
 replace c49:=Bool.eq_false_iff.mpr c49
 subst c49
 replace H:=fn_ H
 simp only [Option.some.injEq,Prod.mk.injEq] at H
 obtain ⟨rfl,rfl⟩:=H
 go_wp2_with (first|((with_reducible refine gate_callee (f:=88) rfl ?_);refine gl_ (some 100) Tryd.func88 #[.int .i64 x0_2,.int .i64 33,.int .i64 126] ?_;(with_reducible refine (bookplateref04_in.calls x0_2 33 126 false _ A48.out).mono ?_);rintro e w' ⟨rfl,⟨nd,rfl⟩⟩;refine ⟨_,rfl,?_⟩))
 go_ret2
 exact ⟨r0_,d0_⟩
 }
 }
  )
  )
 }
  )
  )
 }
  )
  )
 }
  )
  )
 }
  )
  )
 }
  )
  )
  )
  )
end
end Go.Proofs.YtdlolaognnbhpaaDoor.Pr
