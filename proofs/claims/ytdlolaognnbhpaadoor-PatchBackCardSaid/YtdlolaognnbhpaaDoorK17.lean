/- A part of the proof of laws of this seat: PatchBack, PatchDiff, PatchLeast, PatchMetric. Conditions: none of our own. -/
import Derived.Test.YtdlolaognnbhpaaDoorK15
import Derived.Test.YtdlolaognnbhpaaDoorK16
namespace Go.Proofs.YtdlolaognnbhpaaDoor.Pr
open Go.RowKit Go.Proofs.YtdlolaognnbhpaaDoorW.PrintWords Go.Proofs.YtdlolaognnbhpaaDoorW.PrintLast Go.Proofs.YtdlolaognnbhpaaDoorW.PrintMore
noncomputable section
attribute [local go_sem] max2_int min2_int max_two min_two max_three min_three max_four min_four
set_option linter.unusedVariables false
set_option linter.unusedSimpArgs false
def bookplateref04_Has.f (k:Nat) (a0:Int):Option (Bool):=(bookplateref04_Class.f k a0).bind fun bt346=>(some (bt346.2 !=0))
set_option maxHeartbeats 8000000 in
set_option maxRecDepth 100000 in
theorem bookplateref04_Has.calls (k:Nat) (a0:Int) (r:Bool) (w:World) (h:bookplateref04_Has.f k a0=some r):
 Calls Tryd.prog 76 #[.int .i64 a0] w fun e w'=>e= .returned (.bool r)∧Drawn0 w w':=by
 have H:((bookplateref04_Class.f k a0).bind fun bt346=>(some (bt346.2 !=0)))=some r:=h
 clear h
 replace H:=Option.bind_eq_some_iff.mp H
 obtain ⟨⟨t346,t347⟩,A20,H⟩:=H
 replace H:(some (t347 !=0))=some r:=H
 have A2:=Aside0.mk A20
 clear A20
 obtain rfl:=Option.some.inj H
 go_enter Tryd.func76,Tryd.ntmps76
 go_wp2_with (first|((with_reducible refine gate_callee (f:=82) rfl ?_);refine gl_ (some 7) Tryd.func82 #[.int .i64 a0] ?_;(with_reducible refine (bookplateref04_Class.calls k a0 t346 t347 _ A2.out).mono ?_);rintro e w' ⟨rfl,⟨nd,rfl⟩⟩;refine ⟨_,rfl,?_⟩))
 go_ret
 exact ⟨r0_,d0_⟩
def bookplateref04_Decode.l0:Nat→ByteArray→List Int→Int→Option (List Int×Bool)
 |0,_,_,_=>none
 |k+1,x0,x4,x5=>if x5<(x0.size:Int) then ((bookplateref04_at.f k x0 x5).bind fun bt348=>(if bt348.2=0 then (some (([]:List Int),false)) else ((bookplateref04_Has.f k bt348.1).bind fun t350=>(if t350=true then (if x4.length<17592186044416 then (bookplateref04_Decode.l0 k x0 (x4++[bt348.1]) (wrap64 (x5+bt348.2))) else (none)) else (some (([]:List Int),false)))))) else (some (x4,true))
def bookplateref04_Decode.f (k:Nat) (a0:ByteArray):Option (List Int×Bool):=bookplateref04_Decode.l0 k a0 ([]:List Int) 0
set_option maxHeartbeats 8000000 in
set_option maxRecDepth 100000 in
theorem bookplateref04_Decode.calls (k:Nat) (a0:ByteArray) (r1:List Int) (r2:Bool) (w:World) (h:bookplateref04_Decode.f k a0=some (r1,r2)):
 Calls Tryd.prog 65 #[.string a0] w fun e w'=>∃ v0_:Value,e= .returned (.tuple #[v0_,.bool r2])∧Kd.R (Kd.int .i64) 3 w' w.heap.size (fun _=>True) v0_ r1∧Below w.heap.size w w':=by
 have HB:=Aside0.mk (Below.refl w.heap.size w)
 have H:(bookplateref04_Decode.l0 k a0 ([]:List Int) 0)=some (r1,r2):=h
 clear h
 have H':=Aside0.mk H
 clear H
 go_enter Tryd.func65,Tryd.ntmps65
 go_wp2
 go_loopg [4,5] k (fun kq v4 v5 w'=>∃ (x4_1:List Int) (x5_1:Int),v5= .int .i64 x5_1∧Aside0 (bookplateref04_Decode.l0 kq a0 x4_1 x5_1=some (r1,r2))∧Aside0 (kq≤k)∧Aside0 (Kd.R (Kd.int .i64) 3 w' w.heap.size (fun _=>True) v4 x4_1)∧Aside0 (Below w.heap.size w w'))
 case atStart=>exact ⟨(([]:List Int)),(0),r0_,H',⟨Nat.le_refl _⟩,⟨by first|exact Kd.R_nil _ _ _ _ _|exact Kd.N_nil _ _ _ _ _|exact Kd.V_nil _ _ _ _ _|exact Kd.Q_nil _ _ _ _ _|exact Kd.S_nil _ _ _ _ _⟩,⟨b0_⟩⟩
 case round=>
  (
 clear H'
 obtain ⟨x4_1,x5_1,rfl,HA,HK1,HO_4,HB⟩:=hrel
 cases gk with
 |zero=>exact absurd HA.out (by simp [bookplateref04_Decode.l0])
 |succ k1=>
  (
 have H:=HA.out
 clear HA
 simp only [bookplateref04_Decode.l0] at H
 by_cases c2:x5_1<(a0.size:Int)
 {
 rw [if_pos c2] at H
 have c2b0:decide (x5_1<(a0.size:Int))=true:=decide_eq_true c2
 clear c2
 replace H:=Option.bind_eq_some_iff.mp H
 obtain ⟨⟨t348,t349⟩,A30,H⟩:=H
 replace H:(if t349=0 then (some (([]:List Int),false)) else ((bookplateref04_Has.f k1 t348).bind fun t350=>(if t350=true then (if x4_1.length<17592186044416 then (bookplateref04_Decode.l0 k1 a0 (x4_1++[t348]) (wrap64 (x5_1+t349))) else (none)) else (some (([]:List Int),false)))))=some (r1,r2):=H
 have A3:=Aside0.mk A30
 clear A30
 by_cases c4:t349=0
 {
 rw [if_pos c4] at H
 have c4b0:(t349==0)=true:=beq_iff_eq.mpr c4
 have c4b1:(t349 !=0)=false:=bne_eq_false_iff_eq.mpr c4
 clear c4
 simp only [Option.some.injEq,Prod.mk.injEq] at H
 obtain ⟨rfl,rfl⟩:=H
 go_wp2_with (first|((with_reducible refine gate_callee (f:=75) rfl ?_);refine gl_ (some 15) Tryd.func75 #[.string a0,.int .i64 x5_1] ?_;(with_reducible refine (bookplateref04_at.calls k1 a0 x5_1 t348 t349 _ A3.out).mono ?_);rintro e w' ⟨rfl,⟨nd,rfl⟩⟩;refine ⟨_,rfl,?_⟩))
 go_ret2
 exact ⟨_,r1_,by first|exact Kd.R_nil _ _ _ _ _|exact Kd.N_nil _ _ _ _ _|exact Kd.V_nil _ _ _ _ _|exact Kd.Q_nil _ _ _ _ _|exact Kd.S_nil _ _ _ _ _,b0_⟩
 }
 {
 rw [if_neg c4] at H
 have c4b0:(t349==0)=false:=beq_eq_false_iff_ne.mpr c4
 have c4b1:(t349 !=0)=true:=bne_iff_ne.mpr c4
 obtain ⟨t350,A5,H⟩:=ob_ H
 by_cases c6:t350=true
 {
 subst c6
 replace H:=tp_ H
 by_cases c7:x4_1.length<17592186044416
 {
 rw [if_pos c7] at H
 have LMc7:=Aside0.mk c7
 clear c7
 obtain ⟨y351,hy351⟩:∃ y_:List Int,y_=(x4_1++[t348]):=⟨_,rfl⟩
 replace H:(bookplateref04_Decode.l0 k1 a0 y351 (wrap64 (x5_1+t349)))=some (r1,r2):=by first|(rw [hy351];with_reducible exact H)|(have H2_:=(Option.bind_some _ _).symm.trans H;rw [hy351];with_reducible exact H2_)|(have H2_:=(Option.bind_some _ _).symm.trans H;with_reducible exact H2_)|with_reducible exact H|(rw [hy351];exact H)|exact H
 have Ny351:=Aside0.mk hy351
 clear hy351
 have H':=Aside0.mk H
 clear H
 go_wp2_with (first|((with_reducible refine gate_callee (f:=75) rfl ?_);refine gl_ (some 15) Tryd.func75 #[.string a0,.int .i64 x5_1] ?_;(with_reducible refine (bookplateref04_at.calls k1 a0 x5_1 t348 t349 _ A3.out).mono ?_);rintro e w' ⟨rfl,⟨nd,rfl⟩⟩;refine ⟨_,rfl,?_⟩)|(go_at_call 76;(with_reducible refine (bookplateref04_Has.calls k1 t348 true _ A5.out).mono ?_);rintro e w' ⟨rfl,⟨nd,rfl⟩⟩)|((with_reducible refine gate_builtin (b:= .append) (xs:=#[.tmp 25,.tmp 27]) rfl ?_);at_builtin;refine Kd.R_append (Kd.int .i64) (w0:=w) w.heap.size rfl (.tmp 25) (.tmp 27) 72 3 (.int .i64 0) 8 rfl Tryd.underlying72 info3 rfl (by decide) (by omega) u4 x4_1 t348 [.int .i64 t348] (fun _=>True) (fun _=>False) rfl rfl ?aP (fun _ hk=>hk.elim) ?aF ?aO ?aB ?aS ?aL ?_;(case aP=>exact rfl);(case aB=>exact b0_);(case aF=>exact (fun _ _=>trivial));(case aO=>exact (xR_ HO_4));(case aS=>exact (below_size b0_));(case aL=>have:=LMc7.out;omega);intro v352 w8 ho hb hg hat;rw [←Ny351.out] at ho;have n_:=as2_ (hb) (ho);clear HB HO_4;obtain ⟨HB,HO353⟩:=n_;clear ho hb hg hat))
 go_roundg k1
 case measure=>have:=HK1.out;omega
 case rel=>exact ⟨(y351),(wrap64 (x5_1+t349)),r0_,H',⟨by have:=HK1.out;omega⟩,⟨by (with_reducible repeat (first|apply Kd.R_alloc|apply Kd.R_drewN|apply Kd.R_drew));exact HO353.out⟩,⟨b0_⟩⟩
 }
 {
 rw [if_neg c7] at H
 exact absurd H (by simp)
 }
 }
 {
 replace c6:=Bool.eq_false_iff.mpr c6
 subst c6
 replace H:=fn_ H
 simp only [Option.some.injEq,Prod.mk.injEq] at H
 obtain ⟨rfl,rfl⟩:=H
 go_wp2_with (first|((with_reducible refine gate_callee (f:=75) rfl ?_);refine gl_ (some 15) Tryd.func75 #[.string a0,.int .i64 x5_1] ?_;(with_reducible refine (bookplateref04_at.calls k1 a0 x5_1 t348 t349 _ A3.out).mono ?_);rintro e w' ⟨rfl,⟨nd,rfl⟩⟩;refine ⟨_,rfl,?_⟩)|(go_at_call 76;(with_reducible refine (bookplateref04_Has.calls k1 t348 false _ A5.out).mono ?_);rintro e w' ⟨rfl,⟨nd,rfl⟩⟩))
 go_ret2
 exact ⟨_,r1_,by first|exact Kd.R_nil _ _ _ _ _|exact Kd.N_nil _ _ _ _ _|exact Kd.V_nil _ _ _ _ _|exact Kd.Q_nil _ _ _ _ _|exact Kd.S_nil _ _ _ _ _,b0_⟩
 }
 }
 }
 {
 rw [if_neg c2] at H
 have c2b0:decide (x5_1<(a0.size:Int))=false:=decide_eq_false c2
 clear c2
 simp only [Option.some.injEq,Prod.mk.injEq] at H
 obtain ⟨rfl,rfl⟩:=H
 go_wp2
 go_ret2
 exact ⟨_,r1_,by (with_reducible repeat (first|apply Kd.R_alloc|apply Kd.R_drewN|apply Kd.R_drew));exact HO_4.out,b0_⟩
 }
  )
  )
def bookplateref04_Valid.f (k:Nat) (a0:ByteArray):Option (Bool):=if (a0.size:Int)<1 then (some false) else (if (a0.size:Int)>400 then (some false) else (if 0<(a0.size:Int) then (if (bt a0 0)=32 then (some false) else (if 0≤(wrap64 ((a0.size:Int) - 1)) then (if (wrap64 ((a0.size:Int) - 1))<(a0.size:Int) then (if (bt a0 (wrap64 ((a0.size:Int) - 1)))=32 then (some false) else ((bookplateref04_Decode.f k a0).bind fun bt354=>(some bt354.2))) else (none)) else (none))) else (none)))
set_option maxHeartbeats 8000000 in
set_option maxRecDepth 100000 in
theorem bookplateref04_Valid.calls (k:Nat) (a0:ByteArray) (r:Bool) (w:World) (h:bookplateref04_Valid.f k a0=some r):
 Calls Tryd.prog 54 #[.string a0] w fun e w'=>e= .returned (.bool r)∧Below w.heap.size w w':=by
 have HB:=Aside0.mk (Below.refl w.heap.size w)
 have H:(if (a0.size:Int)<1 then (some false) else (if (a0.size:Int)>400 then (some false) else (if 0<(a0.size:Int) then (if (bt a0 0)=32 then (some false) else (if 0≤(wrap64 ((a0.size:Int) - 1)) then (if (wrap64 ((a0.size:Int) - 1))<(a0.size:Int) then (if (bt a0 (wrap64 ((a0.size:Int) - 1)))=32 then (some false) else ((bookplateref04_Decode.f k a0).bind fun bt354=>(some bt354.2))) else (none)) else (none))) else (none))))=some r:=h
 clear h
 by_cases c2:(a0.size:Int)<1
 {
 rw [if_pos c2] at H
 have c2b0:decide ((a0.size:Int)<1)=true:=decide_eq_true c2
 have c2b1:decide (a0.size<1)=true:=decide_eq_true (by omega)
 clear c2
 obtain rfl:=Option.some.inj H
 go_enter Tryd.func54,Tryd.ntmps54
 go_wp2
 go_ret
 exact ⟨r1_,b0_⟩
 }
 {
 rw [if_neg c2] at H
 have c2b0:decide ((a0.size:Int)<1)=false:=decide_eq_false c2
 have c2b1:decide (a0.size<1)=false:=decide_eq_false (by omega)
 clear c2
 by_cases c3:(a0.size:Int)>400
 {
 rw [if_pos c3] at H
 have c3b0:decide (400<(a0.size:Int))=true:=decide_eq_true c3
 have c3b1:decide (400<a0.size)=true:=decide_eq_true (by omega)
 clear c3
 obtain rfl:=Option.some.inj H
 go_enter Tryd.func54,Tryd.ntmps54
 go_wp2
 go_ret
 exact ⟨r1_,b0_⟩
 }
 {
 rw [if_neg c3] at H
 have c3b0:decide (400<(a0.size:Int))=false:=decide_eq_false c3
 have c3b1:decide (400<a0.size)=false:=decide_eq_false (by omega)
 clear c3
 by_cases c4:0<(a0.size:Int)
 {
 rw [if_pos c4] at H
 have c4b0:decide (0<(a0.size:Int))=true:=decide_eq_true c4
 have c4b1:decide (0<a0.size)=true:=decide_eq_true (by omega)
 clear c4
 by_cases c6:(bt a0 0)=32
 {
 rw [if_pos c6] at H
 have c6b0:((bt a0 0)==32)=true:=beq_iff_eq.mpr c6
 have c6b1:((bt a0 0) !=32)=false:=bne_eq_false_iff_eq.mpr c6
 clear c6
 obtain rfl:=Option.some.inj H
 have p5:0≤(0:Int):=(by omega)
 have q5:0<a0.size:=(by have:(0:Int)<(a0.size:Int):=od_;omega)
 have hx5:∀ h:0<a0.size,((a0[0]'h).toNat:Int)=bt a0 0:=bt_at a0 0
 clear p5
 have qi5:(0<(a0.size:Int))=True:=eq_true od_
 replace q5:=eq_true q5
 go_enter Tryd.func54,Tryd.ntmps54
 go_wp2
 go_ret
 exact ⟨r1_,b0_⟩
 }
 {
 rw [if_neg c6] at H
 have c6b0:((bt a0 0)==32)=false:=beq_eq_false_iff_ne.mpr c6
 have c6b1:((bt a0 0) !=32)=true:=bne_iff_ne.mpr c6
 obtain ⟨ji7,hji7⟩:∃ j_:Int,(wrap64 ((a0.size:Int) - 1))=j_:=⟨_,rfl⟩
 replace H:(if 0≤(ji7) then (if (ji7)<(a0.size:Int) then (if (bt a0 (ji7))=32 then (some false) else ((bookplateref04_Decode.f k a0).bind fun bt354=>(some bt354.2))) else (none)) else (none))=some r:=by first|(rw [hji7] at H;exact H)|(simp only [hji7] at H⊢;exact H)
 have hji7w:(IntKind.i64.wrap ((a0.size:Int) - 1))=ji7:=(i64_w _).trans hji7
 by_cases c8:0≤(ji7)
 {
 rw [if_pos c8] at H
 have c8b0:decide (0≤(ji7))=true:=decide_eq_true c8
 clear c8
 by_cases c9:(ji7)<(a0.size:Int)
 {
 rw [if_pos c9] at H
 have c9b0:decide ((ji7)<(a0.size:Int))=true:=decide_eq_true c9
 clear c9
 by_cases c11:(bt a0 (ji7))=32
 {
 rw [if_pos c11] at H
 have c11b0:((bt a0 (ji7))==32)=true:=beq_iff_eq.mpr c11
 have c11b1:((bt a0 (ji7)) !=32)=false:=bne_eq_false_iff_eq.mpr c11
 clear c11
 obtain rfl:=Option.some.inj H
 have p5:0≤(0:Int):=(by omega)
 have q5:0<a0.size:=(by have:(0:Int)<(a0.size:Int):=od_;omega)
 have hx5:∀ h:0<a0.size,((a0[0]'h).toNat:Int)=bt a0 0:=bt_at a0 0
 clear p5
 have qi5:(0<(a0.size:Int))=True:=eq_true od_
 replace q5:=eq_true q5
 have p10:0≤((ji7):Int):=od_
 have q10:(ji7)<(a0.size:Int):=od_
 have hx10:=bt_at a0 (ji7)
 replace p10:=eq_true p10
 replace q10:=eq_true q10
 go_enter Tryd.func54,Tryd.ntmps54
 go_wp2
 go_ret
 exact ⟨by first|rfl|(simp [errW_none,errW_some]<;>rfl)|(simp only [←hji7];first|rfl|(simp [errW_none,errW_some]<;>rfl))|(simp [*,errW_none,errW_some]<;>rfl),b0_⟩
 }
 {
 rw [if_neg c11] at H
 have c11b0:((bt a0 (ji7))==32)=false:=beq_eq_false_iff_ne.mpr c11
 have c11b1:((bt a0 (ji7)) !=32)=true:=bne_iff_ne.mpr c11
 replace H:=Option.bind_eq_some_iff.mp H
 obtain ⟨⟨t354,t355⟩,A120,H⟩:=H
 replace H:(some t355)=some r:=H
 have A12:=Aside0.mk A120
 clear A120
 obtain rfl:=Option.some.inj H
 have p5:0≤(0:Int):=(by omega)
 have q5:0<a0.size:=(by have:(0:Int)<(a0.size:Int):=od_;omega)
 have hx5:∀ h:0<a0.size,((a0[0]'h).toNat:Int)=bt a0 0:=bt_at a0 0
 clear p5
 have qi5:(0<(a0.size:Int))=True:=eq_true od_
 replace q5:=eq_true q5
 have p10:0≤((ji7):Int):=od_
 have q10:(ji7)<(a0.size:Int):=od_
 have hx10:=bt_at a0 (ji7)
 replace p10:=eq_true p10
 replace q10:=eq_true q10
 go_enter Tryd.func54,Tryd.ntmps54
 go_wp2_with (first|((with_reducible refine gate_callee (f:=65) rfl ?_);refine gl_ (some 28) Tryd.func65 #[.string a0] ?_;(with_reducible refine (bookplateref04_Decode.calls k a0 t354 t355 _ A12.out).mono ?_);rintro e w13 ⟨v356,rfl,ho0,hb⟩;refine ⟨_,rfl,?_⟩;have n_:=as2_ (Kd.R_lower ho0 (below_size b0_)) (below_step b0_ hb);clear HB;obtain ⟨HO357,HB⟩:=n_;(try clear hb);(try clear ho0)))
 go_ret
 exact ⟨by first|rfl|(simp [errW_none,errW_some]<;>rfl)|(simp only [←hji7];first|rfl|(simp [errW_none,errW_some]<;>rfl))|(simp [*,errW_none,errW_some]<;>rfl),b0_⟩
 }
 }
 {
 rw [if_neg c9] at H
 exact absurd H (by simp)
 }
 }
 {
 rw [if_neg c8] at H
 exact absurd H (by simp)
 }
 }
 }
 {
 rw [if_neg c4] at H
 exact absurd H (by simp)
 }
 }
 }
end
end Go.Proofs.YtdlolaognnbhpaaDoor.Pr
namespace Go.Proofs.YtdlolaognnbhpaaDoor.Pr
open Go.RowKit Go.Proofs.YtdlolaognnbhpaaDoorW.PrintWords Go.Proofs.YtdlolaognnbhpaaDoorW.PrintLast Go.Proofs.YtdlolaognnbhpaaDoorW.PrintMore
noncomputable section
attribute [local go_sem] max2_int min2_int max_two min_two max_three min_three max_four min_four
set_option linter.unusedVariables false
set_option linter.unusedSimpArgs false
mutual
def bookplateref12_ValidField.j0:Nat→Bool→ByteArray→Int→Int→List (S55)→Option (Bool)
 |0,_,_,_,_,_=>none
 |k+1,x20,x359000,x359001,x359002,x359003=>if x20=true then (some false) else (bookplateref12_ValidField.l0 k 0 x359000 x359001 x359002 x359003)
def bookplateref12_ValidField.l0:Nat→Int→ByteArray→Int→Int→List (S55)→Option (Bool)
 |0,_,_,_,_,_=>none
 |k+1,x3,x359000,x359001,x359002,x359003=>if x3<2 then (if 0≤x3 then (if (Aid.ix2 x3 x359001 x359002)=32 then (bookplateref12_ValidField.l0 k (wrap64 (x3+1)) x359000 x359001 x359002 x359003) else ((bookplateref12_isCode.f (Aid.ix2 x3 x359001 x359002)).bind fun t360=>(if t360=true then (bookplateref12_ValidField.l0 k (wrap64 (x3+1)) x359000 x359001 x359002 x359003) else (some false)))) else (none)) else (bookplateref12_ValidField.l1 k 0 x359000 x359001 x359002 x359003)
def bookplateref12_ValidField.l1:Nat→Int→ByteArray→Int→Int→List (S55)→Option (Bool)
 |0,_,_,_,_,_=>none
 |k+1,x4,x359000,x359001,x359002,x359003=>if x4<(x359003.length:Int) then (if 0≤x4 then ((bookplateref12_isCode.f ((rd_T55 x359003 x4).f0)).bind fun t362=>(if t362=true then ((bookplateref04_Valid.f k ((rd_T55 x359003 x4).f1)).bind fun t364=>(if t364=true then (bookplateref12_ValidField.l1 k (wrap64 (x4+1)) x359000 x359001 x359002 x359003) else (some false))) else (some false))) else (none)) else (some true)
end
def bookplateref12_ValidField.f (k:Nat) (a0_0:ByteArray) (a0_1:Int) (a0_2:Int) (l0_3:List (S55)):Option (Bool):=(bookplateref12_ValidTag.f a0_0).bind fun t359=>(if t359=true then (if (l0_3.length:Int)<1 then (bookplateref12_ValidField.j0 k true a0_0 a0_1 a0_2 l0_3) else (bookplateref12_ValidField.j0 k (decide ((l0_3.length:Int)>20)) a0_0 a0_1 a0_2 l0_3)) else (bookplateref12_ValidField.j0 k true a0_0 a0_1 a0_2 l0_3))
set_option maxHeartbeats 8000000 in
set_option maxRecDepth 100000 in
theorem bookplateref12_ValidField.calls (k:Nat) (a0_0:ByteArray) (a0_1:Int) (a0_2:Int) (A0_3:Option Addr) (c0_3:Nat) (l0_3:List (S55)) (r:Bool) (w:World) (hr0_3:Kd.C k55 w A0_3 l0_3.length l0_3) (hc0_3:l0_3.length≤c0_3) (h:bookplateref12_ValidField.f k a0_0 a0_1 a0_2 l0_3=some r):
 Calls Tryd.prog 33 #[.agg #[.string a0_0,.int .u8 a0_1,.int .u8 a0_2,.slice A0_3 l0_3.length c0_3]] w fun e w'=>e= .returned (.bool r)∧Below w.heap.size w w':=by
 have hu50:=Tryd.underlying50
 have HR0_3:=Aside0.mk hr0_3
 have HC0_3:=Aside0.mk hc0_3
 clear hr0_3 hc0_3
 have HB:=Aside0.mk (Below.refl w.heap.size w)
 have H:((bookplateref12_ValidTag.f a0_0).bind fun t359=>(if t359=true then (if (l0_3.length:Int)<1 then (bookplateref12_ValidField.j0 k true a0_0 a0_1 a0_2 l0_3) else (bookplateref12_ValidField.j0 k (decide ((l0_3.length:Int)>20)) a0_0 a0_1 a0_2 l0_3)) else (bookplateref12_ValidField.j0 k true a0_0 a0_1 a0_2 l0_3)))=some r:=h
 clear h
 have HC2:=Aside0.mk H
 clear H
 go_enter Tryd.func33,Tryd.ntmps33
 go_upto_region 1 with (first|((with_reducible refine gate_dst (N:=1) rfl ?_);(try (refine gate_guard (by rfl) ?_;dsimp only));refine bx_ (N:=1) (cs:=#[.string a0_0,.int .u8 a0_1,.int .u8 a0_2,.slice A0_3 l0_3.length c0_3]) (t:=50) ?_;intro gb358 hg w3 hbox hb;have n_:=as4_ (below_step b0_ hb) (hbox) ((g0_ hg b0_:w.heap.size≤gb358)) ((g0_ hg b0_:w.heap.size≤gb358));clear HB;obtain ⟨HB,BK358,GW358,GE358⟩:=n_;clear hb hbox hg))
 (try simp only [Act.put,List.setIfInBounds_toArray,List.set_cons_zero,List.set_cons_succ])
 go_cut [20] (fun v20 wc=>∃ (kq:Nat) (x20_1:Bool),v20= .bool x20_1∧Aside0 (bookplateref12_ValidField.j0 kq x20_1 a0_0 a0_1 a0_2 l0_3=some r)∧Aside0 (kq≤k)∧Aside0 (wc.heap[gb358]?=some (.cells #[.string a0_0,.int .u8 a0_1,.int .u8 a0_2,(.slice A0_3 l0_3.length c0_3)] 50 (0,0)))∧Aside0 (Below w.heap.size w wc))
 case first=>
  (
 have H:=HC2.out
 clear HC2
 obtain ⟨t359,A4,H⟩:=ob_ H
 by_cases c5:t359=true
 {
 subst c5
 replace H:=tp_ H
 by_cases c6:(l0_3.length:Int)<1
 {
 rw [if_pos c6] at H
 have c6b0:decide ((l0_3.length:Int)<1)=true:=decide_eq_true c6
 have c6b1:decide (l0_3.length<1)=true:=decide_eq_true (by omega)
 clear c6
 (first|rw [c6b0]|(simp only [i64_w,i32_w];rw [c6b0])|skip)
 have H':=Aside0.mk H
 clear H
 have hcz7_0:w3.cell? ⟨gb358,0,none⟩=some (.string a0_0):=(blk_cell BK358.out 0).trans rfl;have hcz7_1:w3.cell? ⟨gb358,1,none⟩=some (.int .u8 a0_1):=(blk_cell BK358.out 1).trans rfl;have hcz7_2:w3.cell? ⟨gb358,2,none⟩=some (.int .u8 a0_2):=(blk_cell BK358.out 2).trans rfl;have hcz7_3:w3.cell? ⟨gb358,3,none⟩=some (.slice A0_3 l0_3.length c0_3):=(blk_cell BK358.out 3).trans rfl
 have hfz7_0:=blk_frozen BK358.out 0
 have hfz7_1:=blk_frozen BK358.out 1
 have hfz7_2:=blk_frozen BK358.out 2
 have hfz7_3:=blk_frozen BK358.out 3
 go_wp2_with (first|((with_reducible refine gate_callee (f:=52) rfl ?_);refine gl_ (some 7) Tryd.func52 #[.string a0_0] ?_;(with_reducible refine (bookplateref12_ValidTag.calls a0_0 true _ A4.out).mono ?_);rintro e w' ⟨rfl,⟨nd,rfl⟩⟩;refine ⟨_,rfl,?_⟩))
 go_meet
 case rel=>exact ⟨_,(true),(by first|rfl|(simp;done)|(simp [*];done)|(congr 1;unfold wrap64;simp only [eq_iff_iff,iff_true] at *;omega)),H',⟨by first|omega|exact Nat.le_refl _⟩,⟨k0_⟩,⟨b0_⟩⟩
 }
 {
 rw [if_neg c6] at H
 have c6b0:decide ((l0_3.length:Int)<1)=false:=decide_eq_false c6
 have c6b1:decide (l0_3.length<1)=false:=decide_eq_false (by omega)
 clear c6
 (first|rw [c6b0]|(simp only [i64_w,i32_w];rw [c6b0])|skip)
 have H':=Aside0.mk H
 clear H
 have hcz8_0:w3.cell? ⟨gb358,0,none⟩=some (.string a0_0):=(blk_cell BK358.out 0).trans rfl;have hcz8_1:w3.cell? ⟨gb358,1,none⟩=some (.int .u8 a0_1):=(blk_cell BK358.out 1).trans rfl;have hcz8_2:w3.cell? ⟨gb358,2,none⟩=some (.int .u8 a0_2):=(blk_cell BK358.out 2).trans rfl;have hcz8_3:w3.cell? ⟨gb358,3,none⟩=some (.slice A0_3 l0_3.length c0_3):=(blk_cell BK358.out 3).trans rfl
 have hfz8_0:=blk_frozen BK358.out 0
 have hfz8_1:=blk_frozen BK358.out 1
 have hfz8_2:=blk_frozen BK358.out 2
 have hfz8_3:=blk_frozen BK358.out 3
 go_wp2_with (first|((with_reducible refine gate_callee (f:=52) rfl ?_);refine gl_ (some 7) Tryd.func52 #[.string a0_0] ?_;(with_reducible refine (bookplateref12_ValidTag.calls a0_0 true _ A4.out).mono ?_);rintro e w' ⟨rfl,⟨nd,rfl⟩⟩;refine ⟨_,rfl,?_⟩))
 go_meet
 case rel=>exact ⟨_,(decide ((l0_3.length:Int)>20)),(by first|rfl|(simp;done)|(simp [*];done)|(congr 1;unfold wrap64;simp only [eq_iff_iff,iff_true] at *;omega)),H',⟨by first|omega|exact Nat.le_refl _⟩,⟨k0_⟩,⟨b0_⟩⟩
 }
 }
 {
 replace c5:=Bool.eq_false_iff.mpr c5
 subst c5
 replace H:=fn_ H
 have H':=Aside0.mk H
 clear H
 have hcz9_0:w3.cell? ⟨gb358,0,none⟩=some (.string a0_0):=(blk_cell BK358.out 0).trans rfl;have hcz9_1:w3.cell? ⟨gb358,1,none⟩=some (.int .u8 a0_1):=(blk_cell BK358.out 1).trans rfl;have hcz9_2:w3.cell? ⟨gb358,2,none⟩=some (.int .u8 a0_2):=(blk_cell BK358.out 2).trans rfl;have hcz9_3:w3.cell? ⟨gb358,3,none⟩=some (.slice A0_3 l0_3.length c0_3):=(blk_cell BK358.out 3).trans rfl
 have hfz9_0:=blk_frozen BK358.out 0
 have hfz9_1:=blk_frozen BK358.out 1
 have hfz9_2:=blk_frozen BK358.out 2
 have hfz9_3:=blk_frozen BK358.out 3
 go_wp2_with (first|((with_reducible refine gate_callee (f:=52) rfl ?_);refine gl_ (some 7) Tryd.func52 #[.string a0_0] ?_;(with_reducible refine (bookplateref12_ValidTag.calls a0_0 false _ A4.out).mono ?_);rintro e w' ⟨rfl,⟨nd,rfl⟩⟩;refine ⟨_,rfl,?_⟩))
 go_meet
 case rel=>exact ⟨_,(true),(by first|rfl|(simp;done)|(simp [*];done)|(congr 1;unfold wrap64;simp only [eq_iff_iff,iff_true] at *;omega)),H',⟨by first|omega|exact Nat.le_refl _⟩,⟨k0_⟩,⟨b0_⟩⟩
 }
  )
 case rest=>
  (
 clear HC2
 try clear p2
 try clear c3
 try clear c5
 try clear c6
 try clear c6b0
 try clear c6b1
 try clear hcz7_0
 try clear hcz7_1
 try clear hcz7_2
 try clear hcz7_3
 try clear hcz8_0
 try clear hcz8_1
 try clear hcz8_2
 try clear hcz8_3
 try clear hcz9_0
 try clear hcz9_1
 try clear hcz9_2
 try clear hcz9_3
 try clear hfz7_0
 try clear hfz7_1
 try clear hfz7_2
 try clear hfz7_3
 try clear hfz8_0
 try clear hfz8_1
 try clear hfz8_2
 try clear hfz8_3
 try clear hfz9_0
 try clear hfz9_1
 try clear hfz9_2
 try clear hfz9_3
 obtain ⟨kq,x20_1,rfl,HA,HJ1,BK358,HB⟩:=hcut
 cases kq with
 |zero=>exact absurd HA.out (by simp [bookplateref12_ValidField.j0])
 |succ kj1=>
  (
 have H:=HA.out
 clear HA
 simp only [bookplateref12_ValidField.j0] at H
 by_cases c10:x20_1=true
 {
 subst c10
 replace H:=tp_ H
 obtain rfl:=Option.some.inj H
 go_wp2
 go_ret
 exact ⟨r1_,b0_⟩
 }
 {
 replace c10:=Bool.eq_false_iff.mpr c10
 subst c10
 replace H:=fn_ H
 have H':=Aside0.mk H
 clear H
 go_wp2
 go_loopg [3] kj1 (fun kq v3 w'=>∃ (x3_2:Int),v3= .int .i64 x3_2∧Aside0 (bookplateref12_ValidField.l0 kq x3_2 a0_0 a0_1 a0_2 l0_3=some r)∧Aside0 (kq≤kj1)∧Aside0 (w'.heap[gb358]?=some (.cells #[.string a0_0,.int .u8 a0_1,.int .u8 a0_2,(.slice A0_3 l0_3.length c0_3)] 50 (0,0)))∧Aside0 (Below w.heap.size w w'))
 case atStart=>exact ⟨(0),(by first|rfl|(simp;done)|(simp [*];done)|(congr 1;unfold wrap64;simp only [eq_iff_iff,iff_true] at *;omega)),H',⟨Nat.le_refl _⟩,⟨k0_⟩,⟨b0_⟩⟩
 case round=>
  (
 clear H'
 try clear c1
 try clear p2
 try clear c3
 try clear c5
 try clear c6
 try clear c6b0
 try clear c6b1
 try clear c10
 try clear hcz7_0
 try clear hcz7_1
 try clear hcz7_2
 try clear hcz7_3
 try clear hcz8_0
 try clear hcz8_1
 try clear hcz8_2
 try clear hcz8_3
 try clear hcz9_0
 try clear hcz9_1
 try clear hcz9_2
 try clear hcz9_3
 try clear hfz7_0
 try clear hfz7_1
 try clear hfz7_2
 try clear hfz7_3
 try clear hfz8_0
 try clear hfz8_1
 try clear hfz8_2
 try clear hfz8_3
 try clear hfz9_0
 try clear hfz9_1
 try clear hfz9_2
 try clear hfz9_3
 try clear p2
 obtain ⟨x3_2,rfl,HA,HK2,BK358,HB⟩:=hrel
 cases gk with
 |zero=>exact absurd HA.out (by simp [bookplateref12_ValidField.l0])
 |succ k2=>
  (
 have H:=HA.out
 clear HA
 simp only [bookplateref12_ValidField.l0] at H
 by_cases c11:x3_2<2
 {
 rw [if_pos c11] at H
 have c11b0:decide (x3_2<2)=true:=decide_eq_true c11
 clear c11
 by_cases c12:0≤x3_2
 {
 rw [if_pos c12] at H
 have c12b0:decide (0≤x3_2)=true:=decide_eq_true c12
 clear c12
 by_cases c13:(Aid.ix2 x3_2 a0_1 a0_2)=32
 {
 rw [if_pos c13] at H
 have c13b0:((Aid.ix2 x3_2 a0_1 a0_2)==32)=true:=beq_iff_eq.mpr c13
 have c13b1:((Aid.ix2 x3_2 a0_1 a0_2) !=32)=false:=bne_eq_false_iff_eq.mpr c13
 clear c13
 have H':=Aside0.mk H
 clear H
 have hcz14_0:wr.cell? ⟨gb358,0,none⟩=some (.string a0_0):=(blk_cell BK358.out 0).trans rfl;have hcz14_1:wr.cell? ⟨gb358,1,none⟩=some (.int .u8 a0_1):=(blk_cell BK358.out 1).trans rfl;have hcz14_2:wr.cell? ⟨gb358,2,none⟩=some (.int .u8 a0_2):=(blk_cell BK358.out 2).trans rfl;have hcz14_3:wr.cell? ⟨gb358,3,none⟩=some (.slice A0_3 l0_3.length c0_3):=(blk_cell BK358.out 3).trans rfl
 have hfz14_0:=blk_frozen BK358.out 0
 have hfz14_1:=blk_frozen BK358.out 1
 have hfz14_2:=blk_frozen BK358.out 2
 have hfz14_3:=blk_frozen BK358.out 3
 have px15:=eq_true (od_:0≤(x3_2:Int))
 have qx15:=eq_true (od_:(x3_2:Int)<2)
 have hx15:wr.cell? ⟨gb358,1+(x3_2).toNat,none⟩=some (.int .u8 (Aid.ix2 x3_2 a0_1 a0_2)):=by rcases (show x3_2=0∨x3_2=1 by have a_:0≤x3_2:=od_;have b_:x3_2<2:=od_;omega) with e_|e_<;>rw [e_]<;>first|exact hcz14_1|exact hcz14_2
 go_wp2
 go_roundg k2
 case measure=>have:=HJ1.out;have:=HK2.out;omega
 case rel=>exact ⟨(wrap64 (x3_2+1)),(by first|rfl|(simp;done)|(simp [*];done)|(congr 1;unfold wrap64;simp only [eq_iff_iff,iff_true] at *;omega)),H',⟨by have:=HJ1.out;have:=HK2.out;omega⟩,⟨k0_⟩,⟨b0_⟩⟩
 }
 {
 rw [if_neg c13] at H
 have c13b0:((Aid.ix2 x3_2 a0_1 a0_2)==32)=false:=beq_eq_false_iff_ne.mpr c13
 have c13b1:((Aid.ix2 x3_2 a0_1 a0_2) !=32)=true:=bne_iff_ne.mpr c13
 obtain ⟨t360,A16,H⟩:=ob_ H
 by_cases c17:t360=true
 {
 subst c17
 replace H:=tp_ H
 have H':=Aside0.mk H
 clear H
 have hcz18_0:wr.cell? ⟨gb358,0,none⟩=some (.string a0_0):=(blk_cell BK358.out 0).trans rfl;have hcz18_1:wr.cell? ⟨gb358,1,none⟩=some (.int .u8 a0_1):=(blk_cell BK358.out 1).trans rfl;have hcz18_2:wr.cell? ⟨gb358,2,none⟩=some (.int .u8 a0_2):=(blk_cell BK358.out 2).trans rfl;have hcz18_3:wr.cell? ⟨gb358,3,none⟩=some (.slice A0_3 l0_3.length c0_3):=(blk_cell BK358.out 3).trans rfl
 have hfz18_0:=blk_frozen BK358.out 0
 have hfz18_1:=blk_frozen BK358.out 1
 have hfz18_2:=blk_frozen BK358.out 2
 have hfz18_3:=blk_frozen BK358.out 3
 have px19:=eq_true (od_:0≤(x3_2:Int))
 have qx19:=eq_true (od_:(x3_2:Int)<2)
 have hx19:wr.cell? ⟨gb358,1+(x3_2).toNat,none⟩=some (.int .u8 (Aid.ix2 x3_2 a0_1 a0_2)):=by rcases (show x3_2=0∨x3_2=1 by have a_:0≤x3_2:=od_;have b_:x3_2<2:=od_;omega) with e_|e_<;>rw [e_]<;>first|exact hcz18_1|exact hcz18_2
 have px20:=eq_true (od_:0≤(x3_2:Int))
 have qx20:=eq_true (od_:(x3_2:Int)<2)
 have hx20:wr.cell? ⟨gb358,1+(x3_2).toNat,none⟩=some (.int .u8 (Aid.ix2 x3_2 a0_1 a0_2)):=by rcases (show x3_2=0∨x3_2=1 by have a_:0≤x3_2:=od_;have b_:x3_2<2:=od_;omega) with e_|e_<;>rw [e_]<;>first|exact hcz18_1|exact hcz18_2
 go_wp2_with (first|(go_at_call 53;(with_reducible refine (bookplateref12_isCode.calls (Aid.ix2 x3_2 a0_1 a0_2) true _ A16.out).mono ?_);rintro e w' ⟨rfl,⟨nd,rfl⟩⟩))
 go_roundg k2
 case measure=>have:=HJ1.out;have:=HK2.out;omega
 case rel=>exact ⟨(wrap64 (x3_2+1)),(by first|rfl|(simp;done)|(simp [*];done)|(congr 1;unfold wrap64;simp only [eq_iff_iff,iff_true] at *;omega)),H',⟨by have:=HJ1.out;have:=HK2.out;omega⟩,⟨k0_⟩,⟨b0_⟩⟩
 }
 {
 replace c17:=Bool.eq_false_iff.mpr c17
 subst c17
 replace H:=fn_ H
 obtain rfl:=Option.some.inj H
 have hcz21_0:wr.cell? ⟨gb358,0,none⟩=some (.string a0_0):=(blk_cell BK358.out 0).trans rfl;have hcz21_1:wr.cell? ⟨gb358,1,none⟩=some (.int .u8 a0_1):=(blk_cell BK358.out 1).trans rfl;have hcz21_2:wr.cell? ⟨gb358,2,none⟩=some (.int .u8 a0_2):=(blk_cell BK358.out 2).trans rfl;have hcz21_3:wr.cell? ⟨gb358,3,none⟩=some (.slice A0_3 l0_3.length c0_3):=(blk_cell BK358.out 3).trans rfl
 have hfz21_0:=blk_frozen BK358.out 0
 have hfz21_1:=blk_frozen BK358.out 1
 have hfz21_2:=blk_frozen BK358.out 2
 have hfz21_3:=blk_frozen BK358.out 3
 have px22:=eq_true (od_:0≤(x3_2:Int))
 have qx22:=eq_true (od_:(x3_2:Int)<2)
 have hx22:wr.cell? ⟨gb358,1+(x3_2).toNat,none⟩=some (.int .u8 (Aid.ix2 x3_2 a0_1 a0_2)):=by rcases (show x3_2=0∨x3_2=1 by have a_:0≤x3_2:=od_;have b_:x3_2<2:=od_;omega) with e_|e_<;>rw [e_]<;>first|exact hcz21_1|exact hcz21_2
 have px23:=eq_true (od_:0≤(x3_2:Int))
 have qx23:=eq_true (od_:(x3_2:Int)<2)
 have hx23:wr.cell? ⟨gb358,1+(x3_2).toNat,none⟩=some (.int .u8 (Aid.ix2 x3_2 a0_1 a0_2)):=by rcases (show x3_2=0∨x3_2=1 by have a_:0≤x3_2:=od_;have b_:x3_2<2:=od_;omega) with e_|e_<;>rw [e_]<;>first|exact hcz21_1|exact hcz21_2
 go_wp2_with (first|(go_at_call 53;(with_reducible refine (bookplateref12_isCode.calls (Aid.ix2 x3_2 a0_1 a0_2) false _ A16.out).mono ?_);rintro e w' ⟨rfl,⟨nd,rfl⟩⟩))
 go_ret
 exact ⟨r1_,b0_⟩
 }
 }
 }
 {
 rw [if_neg c12] at H
 exact absurd H (by simp)
 }
 }
 {
 rw [if_neg c11] at H
 have c11b0:decide (x3_2<2)=false:=decide_eq_false c11
 clear c11
 have H':=Aside0.mk H
 clear H
 go_wp2
 go_loopg [4] k2 (fun kq v4 w'=>∃ (x4_3:Int),v4= .int .i64 x4_3∧Aside0 (bookplateref12_ValidField.l1 kq x4_3 a0_0 a0_1 a0_2 l0_3=some r)∧Aside0 (kq≤k2)∧Aside0 (w'.heap[gb358]?=some (.cells #[.string a0_0,.int .u8 a0_1,.int .u8 a0_2,(.slice A0_3 l0_3.length c0_3)] 50 (0,0)))∧Aside0 (Below w.heap.size w w'))
 case atStart=>exact ⟨(0),(by first|rfl|(simp;done)|(simp [*];done)|(congr 1;unfold wrap64;simp only [eq_iff_iff,iff_true] at *;omega)),H',⟨Nat.le_refl _⟩,⟨k0_⟩,⟨b0_⟩⟩
 case round=>
  (
 clear H'
 try clear c1
 try clear hx1
 try clear p2
 try clear hx2
 try clear c3
 try clear c5
 try clear c6
 try clear c6b0
 try clear c6b1
 try clear p6
 try clear c10
 try clear c11
 try clear c11b0
 try clear c12
 try clear c12b0
 try clear c13
 try clear c13b0
 try clear c13b1
 try clear hx15
 try clear c17
 try clear hx19
 try clear hx20
 try clear hx22
 try clear hx23
 try clear hcz14_0
 try clear hcz14_1
 try clear hcz14_2
 try clear hcz14_3
 try clear hcz18_0
 try clear hcz18_1
 try clear hcz18_2
 try clear hcz18_3
 try clear hcz21_0
 try clear hcz21_1
 try clear hcz21_2
 try clear hcz21_3
 try clear hcz7_0
 try clear hcz7_1
 try clear hcz7_2
 try clear hcz7_3
 try clear hcz8_0
 try clear hcz8_1
 try clear hcz8_2
 try clear hcz8_3
 try clear hcz9_0
 try clear hcz9_1
 try clear hcz9_2
 try clear hcz9_3
 try clear hfz14_0
 try clear hfz14_1
 try clear hfz14_2
 try clear hfz14_3
 try clear hfz18_0
 try clear hfz18_1
 try clear hfz18_2
 try clear hfz18_3
 try clear hfz21_0
 try clear hfz21_1
 try clear hfz21_2
 try clear hfz21_3
 try clear hfz7_0
 try clear hfz7_1
 try clear hfz7_2
 try clear hfz7_3
 try clear hfz8_0
 try clear hfz8_1
 try clear hfz8_2
 try clear hfz8_3
 try clear hfz9_0
 try clear hfz9_1
 try clear hfz9_2
 try clear hfz9_3
 try clear p2
 obtain ⟨x4_3,rfl,HA,HK3,BK358,HB⟩:=hrel
 cases gk with
 |zero=>exact absurd HA.out (by simp [bookplateref12_ValidField.l1])
 |succ k3=>
  (
 have H:=HA.out
 clear HA
 simp only [bookplateref12_ValidField.l1] at H
 by_cases c24:x4_3<(l0_3.length:Int)
 {
 rw [if_pos c24] at H
 have c24b0:decide (x4_3<(l0_3.length:Int))=true:=decide_eq_true c24
 clear c24
 by_cases c25:0≤x4_3
 {
 rw [if_pos c25] at H
 have c25b0:decide (0≤x4_3)=true:=decide_eq_true c25
 clear c25
 obtain ⟨t362,A26,H⟩:=ob_ H
 by_cases c27:t362=true
 {
 subst c27
 replace H:=tp_ H
 obtain ⟨t364,A28,H⟩:=ob_ H
 by_cases c29:t364=true
 {
 subst c29
 replace H:=tp_ H
 have H':=Aside0.mk H
 clear H
 have hcz30_0:wr.cell? ⟨gb358,0,none⟩=some (.string a0_0):=(blk_cell BK358.out 0).trans rfl;have hcz30_1:wr.cell? ⟨gb358,1,none⟩=some (.int .u8 a0_1):=(blk_cell BK358.out 1).trans rfl;have hcz30_2:wr.cell? ⟨gb358,2,none⟩=some (.int .u8 a0_2):=(blk_cell BK358.out 2).trans rfl;have hcz30_3:wr.cell? ⟨gb358,3,none⟩=some (.slice A0_3 l0_3.length c0_3):=(blk_cell BK358.out 3).trans rfl
 have hfz30_0:=blk_frozen BK358.out 0
 have hfz30_1:=blk_frozen BK358.out 1
 have hfz30_2:=blk_frozen BK358.out 2
 have hfz30_3:=blk_frozen BK358.out 3
 have p361:0≤(x4_3:Int):=od_
 have q361:x4_3<(l0_3.length:Int):=od_
 obtain ⟨ad361,e361,hx361_0,hx361_1⟩:=at_T55 HR0_3.out x4_3 p361 q361
 cases e361
 replace hx361_0:=cel_ HB hx361_0
 replace hx361_1:=cel_ HB hx361_1
 replace p361:=eq_true p361
 replace q361:=eq_true q361
 go_wp2_with (first|((with_reducible refine gate_callee (f:=53) rfl ?_);refine gl_ (some 51) Tryd.func53 #[.int .u8 ((rd_T55 l0_3 x4_3).f0)] ?_;(with_reducible refine (bookplateref12_isCode.calls ((rd_T55 l0_3 x4_3).f0) true _ A26.out).mono ?_);rintro e w' ⟨rfl,⟨nd,rfl⟩⟩;refine ⟨_,rfl,?_⟩;have p363:0≤(x4_3:Int):=od_;have q363:x4_3<(l0_3.length:Int):=od_;obtain ⟨ad363,e363,hx363_0,hx363_1⟩:=at_T55 HR0_3.out x4_3 p363 q363;obtain rfl:ad361=ad363:=(by injection e363);replace hx363_0:=cel_ HB hx363_0;replace hx363_1:=cel_ HB hx363_1;replace p363:=eq_true p363;replace q363:=eq_true q363)|(go_at_call 54;(with_reducible refine (bookplateref04_Valid.calls k3 ((rd_T55 l0_3 x4_3).f1) true _ A28.out).mono ?_);rintro e w31 ⟨rfl,hb⟩;have n_:=as2_ (bb_ BK358 hb) (below_step b0_ hb);clear BK358 HB;obtain ⟨BK358,HB⟩:=n_;(try clear hb)))
 go_roundg k3
 case measure=>have:=HJ1.out;have:=HK2.out;have:=HK3.out;omega
 case rel=>exact ⟨(wrap64 (x4_3+1)),(by first|rfl|(simp;done)|(simp [*];done)|(congr 1;unfold wrap64;simp only [eq_iff_iff,iff_true] at *;omega)),H',⟨by have:=HJ1.out;have:=HK2.out;have:=HK3.out;omega⟩,⟨k0_⟩,⟨b0_⟩⟩
 }
 {
 replace c29:=Bool.eq_false_iff.mpr c29
 subst c29
 replace H:=fn_ H
 obtain rfl:=Option.some.inj H
 have hcz32_0:wr.cell? ⟨gb358,0,none⟩=some (.string a0_0):=(blk_cell BK358.out 0).trans rfl;have hcz32_1:wr.cell? ⟨gb358,1,none⟩=some (.int .u8 a0_1):=(blk_cell BK358.out 1).trans rfl;have hcz32_2:wr.cell? ⟨gb358,2,none⟩=some (.int .u8 a0_2):=(blk_cell BK358.out 2).trans rfl;have hcz32_3:wr.cell? ⟨gb358,3,none⟩=some (.slice A0_3 l0_3.length c0_3):=(blk_cell BK358.out 3).trans rfl
 have hfz32_0:=blk_frozen BK358.out 0
 have hfz32_1:=blk_frozen BK358.out 1
 have hfz32_2:=blk_frozen BK358.out 2
 have hfz32_3:=blk_frozen BK358.out 3
 have p361:0≤(x4_3:Int):=od_
 have q361:x4_3<(l0_3.length:Int):=od_
 obtain ⟨ad361,e361,hx361_0,hx361_1⟩:=at_T55 HR0_3.out x4_3 p361 q361
 cases e361
 replace hx361_0:=cel_ HB hx361_0
 replace hx361_1:=cel_ HB hx361_1
 replace p361:=eq_true p361
 replace q361:=eq_true q361
 go_wp2_with (first|((with_reducible refine gate_callee (f:=53) rfl ?_);refine gl_ (some 51) Tryd.func53 #[.int .u8 ((rd_T55 l0_3 x4_3).f0)] ?_;(with_reducible refine (bookplateref12_isCode.calls ((rd_T55 l0_3 x4_3).f0) true _ A26.out).mono ?_);rintro e w' ⟨rfl,⟨nd,rfl⟩⟩;refine ⟨_,rfl,?_⟩;have p363:0≤(x4_3:Int):=od_;have q363:x4_3<(l0_3.length:Int):=od_;obtain ⟨ad363,e363,hx363_0,hx363_1⟩:=at_T55 HR0_3.out x4_3 p363 q363;obtain rfl:ad361=ad363:=(by injection e363);replace hx363_0:=cel_ HB hx363_0;replace hx363_1:=cel_ HB hx363_1;replace p363:=eq_true p363;replace q363:=eq_true q363)|(go_at_call 54;(with_reducible refine (bookplateref04_Valid.calls k3 ((rd_T55 l0_3 x4_3).f1) false _ A28.out).mono ?_);rintro e w33 ⟨rfl,hb⟩;have n_:=as2_ (bb_ BK358 hb) (below_step b0_ hb);clear BK358 HB;obtain ⟨BK358,HB⟩:=n_;(try clear hb)))
 go_ret
 exact ⟨r1_,b0_⟩
 }
 }
 {
 replace c27:=Bool.eq_false_iff.mpr c27
 subst c27
 replace H:=fn_ H
 obtain rfl:=Option.some.inj H
 have hcz34_0:wr.cell? ⟨gb358,0,none⟩=some (.string a0_0):=(blk_cell BK358.out 0).trans rfl;have hcz34_1:wr.cell? ⟨gb358,1,none⟩=some (.int .u8 a0_1):=(blk_cell BK358.out 1).trans rfl;have hcz34_2:wr.cell? ⟨gb358,2,none⟩=some (.int .u8 a0_2):=(blk_cell BK358.out 2).trans rfl;have hcz34_3:wr.cell? ⟨gb358,3,none⟩=some (.slice A0_3 l0_3.length c0_3):=(blk_cell BK358.out 3).trans rfl
 have hfz34_0:=blk_frozen BK358.out 0
 have hfz34_1:=blk_frozen BK358.out 1
 have hfz34_2:=blk_frozen BK358.out 2
 have hfz34_3:=blk_frozen BK358.out 3
 have p361:0≤(x4_3:Int):=od_
 have q361:x4_3<(l0_3.length:Int):=od_
 obtain ⟨ad361,e361,hx361_0,hx361_1⟩:=at_T55 HR0_3.out x4_3 p361 q361
 cases e361
 replace hx361_0:=cel_ HB hx361_0
 replace hx361_1:=cel_ HB hx361_1
 replace p361:=eq_true p361
 replace q361:=eq_true q361
 go_wp2_with (first|((with_reducible refine gate_callee (f:=53) rfl ?_);refine gl_ (some 51) Tryd.func53 #[.int .u8 ((rd_T55 l0_3 x4_3).f0)] ?_;(with_reducible refine (bookplateref12_isCode.calls ((rd_T55 l0_3 x4_3).f0) false _ A26.out).mono ?_);rintro e w' ⟨rfl,⟨nd,rfl⟩⟩;refine ⟨_,rfl,?_⟩))
 go_ret
 exact ⟨r1_,b0_⟩
 }
 }
 {
 rw [if_neg c25] at H
 exact absurd H (by simp)
 }
 }
 {
 rw [if_neg c24] at H
 have c24b0:decide (x4_3<(l0_3.length:Int))=false:=decide_eq_false c24
 clear c24
 obtain rfl:=Option.some.inj H
 have hcz35_0:wr.cell? ⟨gb358,0,none⟩=some (.string a0_0):=(blk_cell BK358.out 0).trans rfl;have hcz35_1:wr.cell? ⟨gb358,1,none⟩=some (.int .u8 a0_1):=(blk_cell BK358.out 1).trans rfl;have hcz35_2:wr.cell? ⟨gb358,2,none⟩=some (.int .u8 a0_2):=(blk_cell BK358.out 2).trans rfl;have hcz35_3:wr.cell? ⟨gb358,3,none⟩=some (.slice A0_3 l0_3.length c0_3):=(blk_cell BK358.out 3).trans rfl
 have hfz35_0:=blk_frozen BK358.out 0
 have hfz35_1:=blk_frozen BK358.out 1
 have hfz35_2:=blk_frozen BK358.out 2
 have hfz35_3:=blk_frozen BK358.out 3
 go_wp2
 go_ret
 exact ⟨r1_,b0_⟩
 }
  )
  )
 }
  )
  )
 }
  )
  )
end
end Go.Proofs.YtdlolaognnbhpaaDoor.Pr
namespace Go.Proofs.YtdlolaognnbhpaaDoor.Pr
open Go.RowKit Go.Proofs.YtdlolaognnbhpaaDoorW.PrintWords Go.Proofs.YtdlolaognnbhpaaDoorW.PrintLast Go.Proofs.YtdlolaognnbhpaaDoorW.PrintMore
noncomputable section
attribute [local go_sem] max2_int min2_int max_two min_two max_three min_three max_four min_four
set_option linter.unusedVariables false
set_option linter.unusedSimpArgs false
mutual
def bookplateref12_Valid.j0:Nat→Bool→Int→List (S50)→Option (Bool)
 |0,_,_,_=>none
 |k+1,x23,x366000,x366001=>if x23=true then (some false) else (bookplateref12_Valid.l0 k 0 x366000 x366001)
def bookplateref12_Valid.l0:Nat→Int→Int→List (S50)→Option (Bool)
 |0,_,_,_=>none
 |k+1,x3,x366000,x366001=>if x3<(x366001.length:Int) then (if 0≤x3 then ((bookplateref12_ValidField.f k ((rd_T50 x366001 x3).f0) ((rd_T50 x366001 x3).f1.f0) ((rd_T50 x366001 x3).f1.f1) ((rd_T50 x366001 x3).f2)).bind fun t367=>(if t367=true then (bookplateref12_Valid.l0 k (wrap64 (x3+1)) x366000 x366001) else (some false))) else (none)) else (some true)
end
def bookplateref12_Valid.f (k:Nat) (a0_0:Int) (l0_1:List (S50)):Option (Bool):=if a0_0<1 then (bookplateref12_Valid.j0 k true a0_0 l0_1) else (if a0_0>1000000000 then (bookplateref12_Valid.j0 k true a0_0 l0_1) else (if (l0_1.length:Int)<1 then (bookplateref12_Valid.j0 k true a0_0 l0_1) else (bookplateref12_Valid.j0 k (decide ((l0_1.length:Int)>60)) a0_0 l0_1)))
set_option maxHeartbeats 8000000 in
set_option maxRecDepth 100000 in
theorem bookplateref12_Valid.calls (k:Nat) (a0_0:Int) (A0_1:Option Addr) (c0_1:Nat) (l0_1:List (S50)) (r:Bool) (w:World) (hr0_1:Kd.C k50 w A0_1 l0_1.length l0_1) (hc0_1:l0_1.length≤c0_1) (h:bookplateref12_Valid.f k a0_0 l0_1=some r):
 Calls Tryd.prog 17 #[.agg #[.int .i64 a0_0,.slice A0_1 l0_1.length c0_1]] w fun e w'=>e= .returned (.bool r)∧Below w.heap.size w w':=by
 have hu24:=Tryd.underlying24
 have hu50:=Tryd.underlying50
 have HR0_1:=Aside0.mk hr0_1
 have HC0_1:=Aside0.mk hc0_1
 clear hr0_1 hc0_1
 have HB:=Aside0.mk (Below.refl w.heap.size w)
 have H:(if a0_0<1 then (bookplateref12_Valid.j0 k true a0_0 l0_1) else (if a0_0>1000000000 then (bookplateref12_Valid.j0 k true a0_0 l0_1) else (if (l0_1.length:Int)<1 then (bookplateref12_Valid.j0 k true a0_0 l0_1) else (bookplateref12_Valid.j0 k (decide ((l0_1.length:Int)>60)) a0_0 l0_1))))=some r:=h
 clear h
 have HC2:=Aside0.mk H
 clear H
 go_enter Tryd.func17,Tryd.ntmps17
 go_upto_region 1 with (first|((with_reducible refine gate_dst (N:=1) rfl ?_);(try (refine gate_guard (by rfl) ?_;dsimp only));refine bx_ (N:=1) (cs:=#[.int .i64 a0_0,.slice A0_1 l0_1.length c0_1]) (t:=24) ?_;intro gb365 hg w3 hbox hb;have n_:=as4_ (below_step b0_ hb) (hbox) ((g0_ hg b0_:w.heap.size≤gb365)) ((g0_ hg b0_:w.heap.size≤gb365));clear HB;obtain ⟨HB,BK365,GW365,GE365⟩:=n_;clear hb hbox hg))
 (try simp only [Act.put,List.setIfInBounds_toArray,List.set_cons_zero,List.set_cons_succ])
 go_cut [23] (fun v23 wc=>∃ (kq:Nat) (x23_1:Bool),v23= .bool x23_1∧Aside0 (bookplateref12_Valid.j0 kq x23_1 a0_0 l0_1=some r)∧Aside0 (kq≤k)∧Aside0 (wc.heap[gb365]?=some (.cells #[.int .i64 a0_0,(.slice A0_1 l0_1.length c0_1)] 24 (0,0)))∧Aside0 (Below w.heap.size w wc))
 case first=>
  (
 have H:=HC2.out
 clear HC2
 by_cases c4:a0_0<1
 {
 rw [if_pos c4] at H
 have c4b0:decide (a0_0<1)=true:=decide_eq_true c4
 clear c4
 (first|rw [c4b0]|(simp only [i64_w,i32_w];rw [c4b0])|skip)
 have H':=Aside0.mk H
 clear H
 have hcz5_0:w3.cell? ⟨gb365,0,none⟩=some (.int .i64 a0_0):=(blk_cell BK365.out 0).trans rfl;have hcz5_1:w3.cell? ⟨gb365,1,none⟩=some (.slice A0_1 l0_1.length c0_1):=(blk_cell BK365.out 1).trans rfl
 have hfz5_0:=blk_frozen BK365.out 0
 have hfz5_1:=blk_frozen BK365.out 1
 go_wp2
 go_meet
 case rel=>exact ⟨_,(true),r0_,H',⟨by first|omega|exact Nat.le_refl _⟩,⟨k0_⟩,⟨b0_⟩⟩
 }
 {
 rw [if_neg c4] at H
 have c4b0:decide (a0_0<1)=false:=decide_eq_false c4
 clear c4
 (first|rw [c4b0]|(simp only [i64_w,i32_w];rw [c4b0])|skip)
 by_cases c6:a0_0>1000000000
 {
 rw [if_pos c6] at H
 have c6b0:decide (1000000000<a0_0)=true:=decide_eq_true c6
 clear c6
 have H':=Aside0.mk H
 clear H
 have hcz7_0:w3.cell? ⟨gb365,0,none⟩=some (.int .i64 a0_0):=(blk_cell BK365.out 0).trans rfl;have hcz7_1:w3.cell? ⟨gb365,1,none⟩=some (.slice A0_1 l0_1.length c0_1):=(blk_cell BK365.out 1).trans rfl
 have hfz7_0:=blk_frozen BK365.out 0
 have hfz7_1:=blk_frozen BK365.out 1
 go_wp2
 go_meet
 case rel=>exact ⟨_,(true),r0_,H',⟨by first|omega|exact Nat.le_refl _⟩,⟨k0_⟩,⟨b0_⟩⟩
 }
 {
 rw [if_neg c6] at H
 have c6b0:decide (1000000000<a0_0)=false:=decide_eq_false c6
 clear c6
 by_cases c8:(l0_1.length:Int)<1
 {
 rw [if_pos c8] at H
 have c8b0:decide ((l0_1.length:Int)<1)=true:=decide_eq_true c8
 have c8b1:decide (l0_1.length<1)=true:=decide_eq_true (by omega)
 clear c8
 have H':=Aside0.mk H
 clear H
 have hcz9_0:w3.cell? ⟨gb365,0,none⟩=some (.int .i64 a0_0):=(blk_cell BK365.out 0).trans rfl;have hcz9_1:w3.cell? ⟨gb365,1,none⟩=some (.slice A0_1 l0_1.length c0_1):=(blk_cell BK365.out 1).trans rfl
 have hfz9_0:=blk_frozen BK365.out 0
 have hfz9_1:=blk_frozen BK365.out 1
 go_wp2
 go_meet
 case rel=>exact ⟨_,(true),r0_,H',⟨by first|omega|exact Nat.le_refl _⟩,⟨k0_⟩,⟨b0_⟩⟩
 }
 {
 rw [if_neg c8] at H
 have c8b0:decide ((l0_1.length:Int)<1)=false:=decide_eq_false c8
 have c8b1:decide (l0_1.length<1)=false:=decide_eq_false (by omega)
 clear c8
 have H':=Aside0.mk H
 clear H
 have hcz10_0:w3.cell? ⟨gb365,0,none⟩=some (.int .i64 a0_0):=(blk_cell BK365.out 0).trans rfl;have hcz10_1:w3.cell? ⟨gb365,1,none⟩=some (.slice A0_1 l0_1.length c0_1):=(blk_cell BK365.out 1).trans rfl
 have hfz10_0:=blk_frozen BK365.out 0
 have hfz10_1:=blk_frozen BK365.out 1
 go_wp2
 go_meet
 case rel=>exact ⟨_,(decide ((l0_1.length:Int)>60)),r0_,H',⟨by first|omega|exact Nat.le_refl _⟩,⟨k0_⟩,⟨b0_⟩⟩
 }
 }
 }
  )
 case rest=>
  (
 clear HC2
 try clear c1
 try clear p2
 try clear c4
 try clear c4b0
 try clear c6
 try clear c6b0
 try clear c8
 try clear c8b0
 try clear c8b1
 try clear hcz10_0
 try clear hcz10_1
 try clear hcz5_0
 try clear hcz5_1
 try clear hcz7_0
 try clear hcz7_1
 try clear hcz9_0
 try clear hcz9_1
 try clear hfz10_0
 try clear hfz10_1
 try clear hfz5_0
 try clear hfz5_1
 try clear hfz7_0
 try clear hfz7_1
 try clear hfz9_0
 try clear hfz9_1
 obtain ⟨kq,x23_1,rfl,HA,HJ1,BK365,HB⟩:=hcut
 cases kq with
 |zero=>exact absurd HA.out (by simp [bookplateref12_Valid.j0])
 |succ kj1=>
  (
 have H:=HA.out
 clear HA
 simp only [bookplateref12_Valid.j0] at H
 by_cases c11:x23_1=true
 {
 subst c11
 replace H:=tp_ H
 obtain rfl:=Option.some.inj H
 go_wp2
 go_ret
 exact ⟨r1_,b0_⟩
 }
 {
 replace c11:=Bool.eq_false_iff.mpr c11
 subst c11
 replace H:=fn_ H
 have H':=Aside0.mk H
 clear H
 go_wp2
 go_loopg [3] kj1 (fun kq v3 w'=>∃ (x3_2:Int),v3= .int .i64 x3_2∧Aside0 (bookplateref12_Valid.l0 kq x3_2 a0_0 l0_1=some r)∧Aside0 (kq≤kj1)∧Aside0 (w'.heap[gb365]?=some (.cells #[.int .i64 a0_0,(.slice A0_1 l0_1.length c0_1)] 24 (0,0)))∧Aside0 (Below w.heap.size w w'))
 case atStart=>exact ⟨(0),r0_,H',⟨Nat.le_refl _⟩,⟨k0_⟩,⟨b0_⟩⟩
 case round=>
  (
 clear H'
 try clear c1
 try clear p2
 try clear c4
 try clear c4b0
 try clear c6
 try clear c6b0
 try clear c8
 try clear c8b0
 try clear c8b1
 try clear c11
 try clear hcz10_0
 try clear hcz10_1
 try clear hcz5_0
 try clear hcz5_1
 try clear hcz7_0
 try clear hcz7_1
 try clear hcz9_0
 try clear hcz9_1
 try clear hfz10_0
 try clear hfz10_1
 try clear hfz5_0
 try clear hfz5_1
 try clear hfz7_0
 try clear hfz7_1
 try clear hfz9_0
 try clear hfz9_1
 try clear p2
 obtain ⟨x3_2,rfl,HA,HK2,BK365,HB⟩:=hrel
 cases gk with
 |zero=>exact absurd HA.out (by simp [bookplateref12_Valid.l0])
 |succ k2=>
  (
 have H:=HA.out
 clear HA
 simp only [bookplateref12_Valid.l0] at H
 by_cases c12:x3_2<(l0_1.length:Int)
 {
 rw [if_pos c12] at H
 have c12b0:decide (x3_2<(l0_1.length:Int))=true:=decide_eq_true c12
 clear c12
 by_cases c13:0≤x3_2
 {
 rw [if_pos c13] at H
 have c13b0:decide (0≤x3_2)=true:=decide_eq_true c13
 clear c13
 obtain ⟨t367,A14,H⟩:=ob_ H
 by_cases c15:t367=true
 {
 subst c15
 replace H:=tp_ H
 have H':=Aside0.mk H
 clear H
 have hcz16_0:wr.cell? ⟨gb365,0,none⟩=some (.int .i64 a0_0):=(blk_cell BK365.out 0).trans rfl;have hcz16_1:wr.cell? ⟨gb365,1,none⟩=some (.slice A0_1 l0_1.length c0_1):=(blk_cell BK365.out 1).trans rfl
 have hfz16_0:=blk_frozen BK365.out 0
 have hfz16_1:=blk_frozen BK365.out 1
 have p366:0≤(x3_2:Int):=od_
 have q366:x3_2<(l0_1.length:Int):=od_
 obtain ⟨ad366,A366_3,c366_3,e366,hx366_0,hx366_1,hx366_2,hx366_3,hl366_3,hi366_3⟩:=at_T50 HR0_1.out x3_2 p366 q366
 cases e366
 replace hx366_0:=cel_ HB hx366_0
 replace hx366_1:=cel_ HB hx366_1
 replace hx366_2:=cel_ HB hx366_2
 replace hx366_3:=cel_ HB hx366_3
 have HR366_3:=Aside0.mk hi366_3
 have HC366_3:=Aside0.mk hl366_3
 clear hi366_3 hl366_3
 replace p366:=eq_true p366
 replace q366:=eq_true q366
 go_wp2_with (first|((with_reducible refine gate_callee (f:=33) rfl ?_);refine gl_ (some 36) Tryd.func33 #[.agg #[.string ((rd_T50 l0_1 x3_2).f0),.int .u8 ((rd_T50 l0_1 x3_2).f1.f0),.int .u8 ((rd_T50 l0_1 x3_2).f1.f1),.slice A366_3 ((rd_T50 l0_1 x3_2).f2).length c366_3]] ?_;(with_reducible refine (bookplateref12_ValidField.calls k2 ((rd_T50 l0_1 x3_2).f0) ((rd_T50 l0_1 x3_2).f1.f0) ((rd_T50 l0_1 x3_2).f1.f1) _ _ ((rd_T50 l0_1 x3_2).f2) true _ ?side1 ?side2 A14.out).mono ?_);(case side1=>exact c0_);(case side2=>exact HC366_3.out);rintro e w17 ⟨rfl,hb⟩;refine ⟨_,rfl,?_⟩;have n_:=as2_ (bb_ BK365 hb) (below_step b0_ hb);clear BK365 HB;obtain ⟨BK365,HB⟩:=n_;(try clear hb)))
 go_roundg k2
 case measure=>have:=HJ1.out;have:=HK2.out;omega
 case rel=>exact ⟨(wrap64 (x3_2+1)),r0_,H',⟨by have:=HJ1.out;have:=HK2.out;omega⟩,⟨k0_⟩,⟨b0_⟩⟩
 }
 {
 replace c15:=Bool.eq_false_iff.mpr c15
 subst c15
 replace H:=fn_ H
 obtain rfl:=Option.some.inj H
 have hcz18_0:wr.cell? ⟨gb365,0,none⟩=some (.int .i64 a0_0):=(blk_cell BK365.out 0).trans rfl;have hcz18_1:wr.cell? ⟨gb365,1,none⟩=some (.slice A0_1 l0_1.length c0_1):=(blk_cell BK365.out 1).trans rfl
 have hfz18_0:=blk_frozen BK365.out 0
 have hfz18_1:=blk_frozen BK365.out 1
 have p366:0≤(x3_2:Int):=od_
 have q366:x3_2<(l0_1.length:Int):=od_
 obtain ⟨ad366,A366_3,c366_3,e366,hx366_0,hx366_1,hx366_2,hx366_3,hl366_3,hi366_3⟩:=at_T50 HR0_1.out x3_2 p366 q366
 cases e366
 replace hx366_0:=cel_ HB hx366_0
 replace hx366_1:=cel_ HB hx366_1
 replace hx366_2:=cel_ HB hx366_2
 replace hx366_3:=cel_ HB hx366_3
 have HR366_3:=Aside0.mk hi366_3
 have HC366_3:=Aside0.mk hl366_3
 clear hi366_3 hl366_3
 replace p366:=eq_true p366
 replace q366:=eq_true q366
 go_wp2_with (first|((with_reducible refine gate_callee (f:=33) rfl ?_);refine gl_ (some 36) Tryd.func33 #[.agg #[.string ((rd_T50 l0_1 x3_2).f0),.int .u8 ((rd_T50 l0_1 x3_2).f1.f0),.int .u8 ((rd_T50 l0_1 x3_2).f1.f1),.slice A366_3 ((rd_T50 l0_1 x3_2).f2).length c366_3]] ?_;(with_reducible refine (bookplateref12_ValidField.calls k2 ((rd_T50 l0_1 x3_2).f0) ((rd_T50 l0_1 x3_2).f1.f0) ((rd_T50 l0_1 x3_2).f1.f1) _ _ ((rd_T50 l0_1 x3_2).f2) false _ ?side1 ?side2 A14.out).mono ?_);(case side1=>exact c0_);(case side2=>exact HC366_3.out);rintro e w19 ⟨rfl,hb⟩;refine ⟨_,rfl,?_⟩;have n_:=as2_ (bb_ BK365 hb) (below_step b0_ hb);clear BK365 HB;obtain ⟨BK365,HB⟩:=n_;(try clear hb)))
 go_ret
 exact ⟨r1_,b0_⟩
 }
 }
 {
 rw [if_neg c13] at H
 exact absurd H (by simp)
 }
 }
 {
 rw [if_neg c12] at H
 have c12b0:decide (x3_2<(l0_1.length:Int))=false:=decide_eq_false c12
 clear c12
 obtain rfl:=Option.some.inj H
 have hcz20_0:wr.cell? ⟨gb365,0,none⟩=some (.int .i64 a0_0):=(blk_cell BK365.out 0).trans rfl;have hcz20_1:wr.cell? ⟨gb365,1,none⟩=some (.slice A0_1 l0_1.length c0_1):=(blk_cell BK365.out 1).trans rfl
 have hfz20_0:=blk_frozen BK365.out 0
 have hfz20_1:=blk_frozen BK365.out 1
 go_wp2
 go_ret
 exact ⟨r1_,b0_⟩
 }
  )
  )
 }
  )
  )
end
end Go.Proofs.YtdlolaognnbhpaaDoor.Pr
