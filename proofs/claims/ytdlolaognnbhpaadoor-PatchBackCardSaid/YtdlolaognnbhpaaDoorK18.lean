/- A part of the proof of laws of this seat: PatchBack, PatchDiff, PatchLeast, PatchMetric. Conditions: none of our own. -/
import Derived.Test.YtdlolaognnbhpaaDoorK12
namespace Go.Proofs.YtdlolaognnbhpaaDoor.Pr
open Go.RowKit Go.Proofs.YtdlolaognnbhpaaDoorW.PrintWords Go.Proofs.YtdlolaognnbhpaaDoorW.PrintLast Go.Proofs.YtdlolaognnbhpaaDoorW.PrintMore
noncomputable section
attribute [local go_sem] max2_int min2_int max_two min_two max_three min_three max_four min_four
set_option linter.unusedVariables false
set_option linter.unusedSimpArgs false
mutual
def bookplateref18_lengths.l0:Nat→List (S50)→List (S50)→List (List Int)→Int→Option ((List (List Int)))
 |0,_,_,_,_=>none
 |k+1,x0,x1,x5,x6=>if x6≥0 then (if 0≤(wrap64 ((x1.length:Int)+1)) then (if (wrap64 ((x1.length:Int)+1):Int).toNat≤35184372088832 then (if 0≤x6 then (if x6<(x5.length:Int) then (bookplateref18_lengths.l1 k x0 x1 (x5.set (x6:Int).toNat (List.replicate (wrap64 ((x1.length:Int)+1):Int).toNat 0)) x6 (wrap64 ((x1.length:Int) - 1))) else (none)) else (none)) else (none)) else (none)) else (some x5)
def bookplateref18_lengths.l1:Nat→List (S50)→List (S50)→List (List Int)→Int→Int→Option ((List (List Int)))
 |0,_,_,_,_,_=>none
 |k+1,x0,x1,x5,x6,x7=>if x7≥0 then (bookplateref18_lengths.j2 k x0 x1 x5 x6 x7 (decide (x6<(x0.length:Int)))) else (bookplateref18_lengths.j2 k x0 x1 x5 x6 x7 false)
def bookplateref18_lengths.j2:Nat→List (S50)→List (S50)→List (List Int)→Int→Int→Bool→Option ((List (List Int)))
 |0,_,_,_,_,_,_=>none
 |k+1,x0,x1,x5,x6,x7,x35=>if x35=true then (if 0≤x6 then (if x6<(x5.length:Int) then (if 0≤(wrap64 (x6+1)) then (if (wrap64 (x6+1))<(x5.length:Int) then (if 0≤x7 then (if x7<((rd_L4 x5 (wrap64 (x6+1))).length:Int) then (if 0≤(wrap64 (x7+1)) then (if (wrap64 (x7+1))<((rd_L4 x5 x6).length:Int) then (if x7<((rd_L4 x5 x6).length:Int) then ((some (x5.set (x6:Int).toNat ((rd_L4 x5 x6).set (x7:Int).toNat (mx (rd (rd_L4 x5 (wrap64 (x6+1))) x7) (rd (rd_L4 x5 x6) (wrap64 (x7+1))))):List (List Int))).bind fun y382=>(if x6<(x0.length:Int) then (if x7<(x1.length:Int) then ((bookplateref12_SameField.f k ((rd_T50 x0 x6).f0) ((rd_T50 x0 x6).f1.f0) ((rd_T50 x0 x6).f1.f1) ((rd_T50 x0 x6).f2) ((rd_T50 x1 x7).f0) ((rd_T50 x1 x7).f1.f0) ((rd_T50 x1 x7).f1.f1) ((rd_T50 x1 x7).f2)).bind fun t385=>(if t385=true then (if x7<((rd_L4 y382 x6).length:Int) then (if (wrap64 (x7+1))<((rd_L4 y382 (wrap64 (x6+1))).length:Int) then (bookplateref18_lengths.l1 k x0 x1 (y382.set (x6:Int).toNat ((rd_L4 y382 x6).set (x7:Int).toNat (mx (rd (rd_L4 y382 x6) x7) (wrap64 (1+(rd (rd_L4 y382 (wrap64 (x6+1))) (wrap64 (x7+1)))))))) x6 (wrap64 (x7 - 1))) else (none)) else (none)) else (bookplateref18_lengths.l1 k x0 x1 y382 x6 (wrap64 (x7 - 1))))) else (none)) else (none))) else (none)) else (none)) else (none)) else (none)) else (none)) else (none)) else (none)) else (none)) else (none)) else (bookplateref18_lengths.l0 k x0 x1 x5 (wrap64 (x6 - 1)))
end
def bookplateref18_lengths.f (k:Nat) (l0:List (S50)) (l1:List (S50)):Option ((List (List Int))):=if 0≤(wrap64 ((l0.length:Int)+1)) then (if (wrap64 ((l0.length:Int)+1):Int).toNat≤11728124029610 then (bookplateref18_lengths.l0 k l0 l1 (List.replicate (wrap64 ((l0.length:Int)+1):Int).toNat []) (l0.length:Int)) else (none)) else (none)
def bookplateref18_lengths.T9:Bool×List (List Nat×List Nat):=(true,[([],[]),([],[]),([0,1],[0,1]),([2],[2]),([],[]),([],[]),([],[]),([6],[6]),([5,7],[5,7]),([8],[8]),([],[]),([9,10],[9,10]),([11],[11]),([],[]),([],[]),([13,14],[13,14]),([15],[15]),([],[]),([17],[17]),([16,18],[16,18]),([19],[19]),([12,20],[12,20]),([3,4,0,1,2,3,4,5,6,7,8,9,10,11,12,13,14,15,16,17,18,19,20,21],[3,4]),([22,21,0,1,2,3,4,5,6,7,8,9,10,11,12,13,14,15,16,17,18,19,20,21],[21,22])])
def bookplateref18_lengths.B9:List Nat:=[0,0,3,7,0,0,0,64,224,480,0,2016,4064,0,0,24576,57344,0,131072,516096,1040384,2097120,4194303,8388607]
theorem bookplateref18_lengths.tab9:rtab .any (opsOf Tryd.f39 9)=bookplateref18_lengths.T9:=by kernel_rfl
theorem bookplateref18_lengths.bits9:waitsOk bookplateref18_lengths.T9.2 bookplateref18_lengths.B9=true:=by kernel_rfl
def bookplateref18_lengths.T10:Bool×List (List Nat×List Nat):=(true,[([],[]),([],[]),([0,1],[0,1]),([2],[2]),([],[]),([],[]),([4,5],[4,5]),([6],[6]),([3,7],[3,7])])
def bookplateref18_lengths.B10:List Nat:=[0,0,3,7,0,0,48,112,255]
theorem bookplateref18_lengths.tab10:rtab .any (opsOf Tryd.f39 10)=bookplateref18_lengths.T10:=by kernel_rfl
theorem bookplateref18_lengths.bits10:waitsOk bookplateref18_lengths.T10.2 bookplateref18_lengths.B10=true:=by kernel_rfl
def bookplateref18_lengths.T11:Bool×List (List Nat×List Nat):=(true,[([],[]),([],[]),([0,1],[0,1]),([2],[2]),([],[]),([],[]),([],[]),([5,6],[5,6]),([7],[7]),([],[]),([8,9],[8,9]),([10],[10]),([],[]),([],[]),([13],[13]),([12,14],[12,14]),([15],[15]),([],[]),([17],[17]),([16,18],[16,18]),([19],[19]),([20],[20]),([11,21],[11,21]),([3,4,0,1,2,3,4,5,6,7,8,9,10,11,12,13,14,15,16,17,18,19,20,21,22],[3,4]),([23,22,0,1,2,3,4,5,6,7,8,9,10,11,12,13,14,15,16,17,18,19,20,21,22],[22,23])])
def bookplateref18_lengths.B11:List Nat:=[0,0,3,7,0,0,0,96,224,0,992,2016,0,0,8192,28672,61440,0,131072,520192,1044480,2093056,4194272,8388607,16777215]
theorem bookplateref18_lengths.tab11:rtab .any (opsOf Tryd.f39 11)=bookplateref18_lengths.T11:=by kernel_rfl
theorem bookplateref18_lengths.bits11:waitsOk bookplateref18_lengths.T11.2 bookplateref18_lengths.B11=true:=by kernel_rfl
set_option maxHeartbeats 8000000 in
set_option maxRecDepth 100000 in
theorem bookplateref18_lengths.calls (k:Nat) (A0:Option Addr) (c0:Nat) (l0:List (S50)) (A1:Option Addr) (c1:Nat) (l1:List (S50)) (r:List (List Int)) (w:World) (hr0:Kd.C k50 w A0 l0.length l0) (hc0:l0.length≤c0) (hr1:Kd.C k50 w A1 l1.length l1) (hc1:l1.length≤c1) (h:bookplateref18_lengths.f k l0 l1=some r):
 Calls Tryd.prog 39 #[.slice A0 l0.length c0,.slice A1 l1.length c1] w fun e w'=>∃ v0_:Value,e= .returned (v0_)∧Kd.S (Kd.slice 3 (Kd.int .i64)) 72 w' w.heap.size (fun _=>True) v0_ r∧Below w.heap.size w w':=by
 have hu50:=Tryd.underlying50
 have HR0:=Aside0.mk hr0
 have HC0:=Aside0.mk hc0
 clear hr0 hc0
 have HR1:=Aside0.mk hr1
 have HC1:=Aside0.mk hc1
 clear hr1 hc1
 have HB:=Aside0.mk (Below.refl w.heap.size w)
 have H:(if 0≤(wrap64 ((l0.length:Int)+1)) then (if (wrap64 ((l0.length:Int)+1):Int).toNat≤11728124029610 then (bookplateref18_lengths.l0 k l0 l1 (List.replicate (wrap64 ((l0.length:Int)+1):Int).toNat []) (l0.length:Int)) else (none)) else (none))=some r:=h
 clear h
 obtain ⟨ji3,hji3⟩:∃ j_:Int,(wrap64 ((l0.length:Int)+1))=j_:=⟨_,rfl⟩
 replace H:(if 0≤(ji3) then (if (ji3:Int).toNat≤11728124029610 then (bookplateref18_lengths.l0 k l0 l1 (List.replicate (ji3:Int).toNat []) (l0.length:Int)) else (none)) else (none))=some r:=by first|(rw [hji3] at H;exact H)|(simp only [hji3] at H⊢;exact H)
 have hji3w:(IntKind.i64.wrap ((l0.length:Int)+1))=ji3:=(i64_w _).trans hji3
 by_cases c4:0≤(ji3)
 {
 rw [if_pos c4] at H
 have c4b0:=eq_true c4
 have c4b1:decide (0≤(ji3))=true:=decide_eq_true c4
 clear c4
 by_cases c5:(ji3:Int).toNat≤11728124029610
 {
 rw [if_pos c5] at H
 have c5b0:=eq_true c5
 have c5b1:decide ((ji3:Int).toNat≤11728124029610)=true:=decide_eq_true c5
 clear c5
 obtain ⟨y368,hy368⟩:∃ y_:List (List Int),y_=(List.replicate (ji3:Int).toNat []):=⟨_,rfl⟩
 replace H:(bookplateref18_lengths.l0 k l0 l1 y368 (l0.length:Int))=some r:=by first|(rw [hy368];with_reducible exact H)|(have H2_:=(Option.bind_some _ _).symm.trans H;rw [hy368];with_reducible exact H2_)|(have H2_:=(Option.bind_some _ _).symm.trans H;with_reducible exact H2_)|with_reducible exact H|(rw [hy368];exact H)|exact H
 have Ny368:=Aside0.mk hy368
 clear hy368
 have H':=Aside0.mk H
 clear H
 go_enter Tryd.func39,Tryd.ntmps39
 go_wp2_with (first|((with_reducible refine gate_dst (N:=11) rfl ?_);(try (refine gate_guard (by rfl) ?_;dsimp only));refine Kd.S_make (Kd.slice 3 (Kd.int .i64)) _ 72 rfl (N:=11) rfl 69 _ _ rfl ji3 rfl rfl Tryd.underlying69 (.slice none 0 0) 24 info72 rfl (by decide) (by omega) [] (ok:=fun _=>True) (okp:=fun _=>True) ⟨_,rfl,Kd.R_nil _ _ _ _ _⟩ (fun _ hk=>hk) trivial od_ (Nat.le_trans (Nat.mul_le_mul_right _ (od_:ji3.toNat≤11728124029610)) (by omega)) (Below.refl _ _) (Nat.le_refl _) ?_;intro v369 w6 ho7 hb hg_ hnew_;clear hg_ hnew_;(first|rw [←Ny368.out] at ho7|(simp only [Int.reduceToNat] at ho7;rw [←Ny368.out] at ho7));have n_:=as2_ (Kd.S_lower ho7 (below_size b0_)) (below_step b0_ hb);clear HB;obtain ⟨HO370,HB⟩:=n_;clear hb ho7))
 go_loopg [6] k (fun kq v6 w'=>∃ (x5_1:List (List Int)) (x6_1:Int),v6= .int .i64 x6_1∧Aside0 (bookplateref18_lengths.l0 kq l0 l1 x5_1 x6_1=some r)∧Aside0 (kq≤k)∧Aside0 (Kd.S (Kd.slice 3 (Kd.int .i64)) 72 w' w.heap.size (fun _=>True) v369 x5_1)∧Aside0 (Below w.heap.size w w'))
 case atStart=>exact ⟨(y368),((l0.length:Int)),r0_,H',⟨Nat.le_refl _⟩,⟨by (with_reducible repeat (first|apply Kd.S_alloc|apply Kd.S_drewN|apply Kd.S_drew));exact HO370.out⟩,⟨b0_⟩⟩
 case round=>
  (
 clear H'
 try clear c1
 try clear p2
 try clear c3
 try clear c4
 try clear c4b0
 try clear c4b1
 try clear c5
 try clear c5b0
 try clear c5b1
 try clear p6
 obtain ⟨x5_1,x6_1,rfl,HA,HK1,HO_5,HB⟩:=hrel
 cases gk with
 |zero=>exact absurd HA.out (by simp [bookplateref18_lengths.l0])
 |succ k1=>
  (
 have H:=HA.out
 clear HA
 simp only [bookplateref18_lengths.l0] at H
 by_cases c8:x6_1≥0
 {
 rw [if_pos c8] at H
 have c8b0:decide (0≤x6_1)=true:=decide_eq_true c8
 clear c8
 obtain ⟨ji9,hji9⟩:∃ j_:Int,(wrap64 ((l1.length:Int)+1))=j_:=⟨_,rfl⟩
 replace H:(if 0≤(ji9) then (if (ji9:Int).toNat≤35184372088832 then (if 0≤x6_1 then (if x6_1<(x5_1.length:Int) then (bookplateref18_lengths.l1 k1 l0 l1 (x5_1.set (x6_1:Int).toNat (List.replicate (ji9:Int).toNat 0)) x6_1 (wrap64 ((l1.length:Int) - 1))) else (none)) else (none)) else (none)) else (none))=some r:=by first|(rw [hji9] at H;exact H)|(simp only [hji9] at H⊢;exact H)
 have hji9w:(IntKind.i64.wrap ((l1.length:Int)+1))=ji9:=(i64_w _).trans hji9
 by_cases c10:0≤(ji9)
 {
 rw [if_pos c10] at H
 have c10b0:=eq_true c10
 have c10b1:decide (0≤(ji9))=true:=decide_eq_true c10
 clear c10
 by_cases c11:(ji9:Int).toNat≤35184372088832
 {
 rw [if_pos c11] at H
 have c11b0:=eq_true c11
 have c11b1:decide ((ji9:Int).toNat≤35184372088832)=true:=decide_eq_true c11
 clear c11
 obtain ⟨y371,hy371⟩:∃ y_:List Int,y_=(List.replicate (ji9:Int).toNat 0):=⟨_,rfl⟩
 replace H:(if 0≤x6_1 then (if x6_1<(x5_1.length:Int) then (bookplateref18_lengths.l1 k1 l0 l1 (x5_1.set (x6_1:Int).toNat y371) x6_1 (wrap64 ((l1.length:Int) - 1))) else (none)) else (none))=some r:=by first|(rw [hy371];with_reducible exact H)|(have H2_:=(Option.bind_some _ _).symm.trans H;rw [hy371];with_reducible exact H2_)|(have H2_:=(Option.bind_some _ _).symm.trans H;with_reducible exact H2_)|with_reducible exact H|(rw [hy371];exact H)|exact H
 have Ny371:=Aside0.mk hy371
 clear hy371
 by_cases c12:0≤x6_1
 {
 rw [if_pos c12] at H
 have c12b0:decide (0≤x6_1)=true:=decide_eq_true c12
 clear c12
 by_cases c13:x6_1<(x5_1.length:Int)
 {
 rw [if_pos c13] at H
 have c13b0:decide (x6_1<(x5_1.length:Int))=true:=decide_eq_true c13
 clear c13
 obtain ⟨y374,hy374⟩:∃ y_:List (List Int),y_=(x5_1.set (x6_1:Int).toNat y371):=⟨_,rfl⟩
 replace H:(bookplateref18_lengths.l1 k1 l0 l1 y374 x6_1 (wrap64 ((l1.length:Int) - 1)))=some r:=by first|(rw [hy374];with_reducible exact H)|(have H2_:=(Option.bind_some _ _).symm.trans H;rw [hy374];with_reducible exact H2_)|(have H2_:=(Option.bind_some _ _).symm.trans H;with_reducible exact H2_)|with_reducible exact H|(rw [hy374];exact H)|exact H
 have Ny374:=Aside0.mk hy374
 clear hy374
 have H':=Aside0.mk H
 clear H
 go_wp2_with (first|((with_reducible refine gate_dst (N:=23) rfl ?_);(try (refine gate_guard (by rfl) ?_;dsimp only));refine Kd.R_make (Kd.int .i64) _ 3 rfl (N:=23) rfl 72 _ _ rfl ji9 rfl rfl Tryd.underlying72 (.int .i64 0) 8 info3 rfl (by decide) (by omega) 0 (ok:=fun _=>True) (okp:=fun _=>True) rfl (fun _ hk=>hk) trivial od_ (Nat.le_trans (Nat.mul_le_mul_right _ (od_:ji9.toNat≤35184372088832)) (by omega)) (Below.refl _ _) (Nat.le_refl _) ?_;intro v372 w15 ho16 hb hg_ hnew_;clear hg_ hnew_;(first|rw [←Ny371.out] at ho16|(simp only [Int.reduceToNat] at ho16;rw [←Ny371.out] at ho16));have n_:=as3_ (Kd.S_elder' (xS_ HO_5) (Kd.R_base ho16) hb) (Kd.R_lower ho16 (below_size b0_)) (below_step b0_ hb);clear HO_5 HB;obtain ⟨HO_5,HO373,HB⟩:=n_;clear hb ho16;have p14:0≤(x6_1:Int):=od_;have q14:(x6_1:Int)<((x5_1.length:Int):Int):=od_;obtain ⟨go14,co14,eo14,gb14,gl14,cl14,HG14⟩:=Kd.S_form HO_5.out (by omega);(first|cases eo14|(injection eo14 with ea_ en_ ec_;(first|subst ea_|(injection ea_ with ea_;subst ea_));subst ec_;clear en_));have GB14:=Aside0.mk gb14;have GG14:=Aside0.mk HG14;clear gb14 gl14 HG14;obtain ⟨_,ce14,hcl14,hM14,hcc14,hfr14,_,_⟩:=Kd.S_elem HO_5.out [] (x6_1:Int) p14 q14;obtain ⟨ve14_0,rfl,ge14_0⟩:=hM14;have hx14_0:=hcc14 0 _ rfl;have hf14_0:=hfr14 0;(try simp only [show ((Kd.slice 3 (Kd.int .i64))).sz=1 from rfl,Nat.mul_one,Nat.add_zero] at hx14_0);(try simp only [show ((Kd.slice 3 (Kd.int .i64))).sz=1 from rfl,Nat.mul_one,Nat.add_zero] at hf14_0);(try clear hM14);clear hcl14 hcc14 hfr14;replace p14:=eq_true p14;replace q14:=eq_true q14;have n_:=Aside0.mk (Kd.S_mono (ok':=(fun k_=>some k_≠(v372:Value).ownBlock)) HO_5.out (fun k_ hk=>hk.2));clear HO_5;have HO_5:=n_;clear n_;have HX17:=Aside0.mk (show Kd.S (Kd.slice 3 (Kd.int .i64)) 72 w15 w.heap.size (fun k_=>((fun _=>True)) k_∧ ¬ ((fun k_=>some k_=(v372:Value).ownBlock)) k_) (.slice (some ⟨go14,0,none⟩) x5_1.length co14) x5_1 from (by (with_reducible repeat (first|apply Kd.S_alloc|apply Kd.S_drewN|apply Kd.S_drew));exact Kd.S_mono HO_5.out (fun k_ hk=>⟨trivial,fun e_=>hk e_⟩)));obtain ⟨oki17,ce17,hcl17,hM17,hcc17,hfr17,hoki17,hH17⟩:=Kd.S_elem HX17.out [] (x6_1:Int) od_ (by have h_:(x6_1:Int)<((x5_1.length:Int):Int):=od_;first|exact h_|(have e_:=(Kd.S_reads' HO_5.out).1;omega)|simpa using h_);obtain ⟨ve17_0,rfl,ge17_0⟩:=hM17;have HP17:=Kd.S_seg hH17 od_ (by have h_:(x6_1:Int)<((x5_1.length:Int):Int):=od_;first|exact h_|(have e_:=(Kd.S_reads' HO_5.out).1;omega)|simpa using h_) (seg:=[v372]) (j:=0) (show 1≤1 from by decide) (x':=y371) (Kd.M_row (Kd.R_mono (Kd.R_tight rfl (Kd.R_mono (ok':=fun k_=>((fun _=>True)) k_∧k_≠go14) (Kd.R_apart' (HO373.out) (Kd.S_typed HO_5.out) (by decide)) (fun k_ hk=>⟨trivial,fun e_=>(hk.2) (by rw [e_];rfl)⟩))) (fun _ h_=>Or.inr (h_)))) (fun _ hk=>hk) (fun k_ hk_=>((Kd.R_mono (ok':=fun k_=>((fun _=>True)) k_∧k_≠go14) (Kd.R_apart' (HO373.out) (Kd.S_typed HO_5.out) (by decide)) (fun k_ hk=>⟨trivial,fun e_=>(hk.2) (by rw [e_];rfl)⟩))).1 k_ hk_.symm);have hx17_0:=hcc17 0 _ rfl;(try simp only [show ((Kd.slice 3 (Kd.int .i64))).sz=1 from rfl,Nat.mul_one,Nat.add_zero] at hx17_0);have hf17_0:=hfr17 0;(try simp only [show ((Kd.slice 3 (Kd.int .i64))).sz=1 from rfl,Nat.mul_one,Nat.add_zero] at hf17_0);(try clear hM17);clear hcl17 hcc17 hfr17 hoki17 hH17;(try simp only [show ((Kd.slice 3 (Kd.int .i64))).sz=1 from rfl,Nat.mul_one,Nat.add_zero] at HP17))|((with_reducible refine gate_store (t:=72) (p:=24) rfl ?_);refine store_event (t:=72) (p:=24) (v:=?vo_w18) (w1:=(w15.setCell ⟨go14,(x6_1:Int).toNat,none⟩ (v372))) ?hg ?ho ?hn ?hr ?_;(case ho=>rfl);(case hg=>rfl);(case hn=>rfl);(case hr=>first|(go_simp;done)|(go_simp;rfl)|(obtain ⟨A_,n_,c_,hv_⟩:=Aid.R_slice HO373.out;rw [hv_];first|(go_simp;done)|(go_simp;rfl)));intro w18 hw;have hg:w15.grownBy w18 (some go14):=(by rw [hw];exact HP17.2);have hp_:Kd.S (Kd.slice 3 (Kd.int .i64)) 72 w18 w.heap.size (fun _=>True) (.slice (some ⟨go14,0,none⟩) x5_1.length co14) y374:=(by rw [hw,Ny374.out];exact HP17.1);clear HP17;have n_:=as2_ (hp_) ((by rw [hw];exact below_set (HB.out) GB14.out:Below w.heap.size w w18));clear HO_5 HB HO373;obtain ⟨HO_5,HB⟩:=n_;clear hg hw hp_))
 go_loopg [7] k1 (fun kq v7 w'=>∃ (x5_2:List (List Int)) (x7_2:Int),v7= .int .i64 x7_2∧Aside0 (bookplateref18_lengths.l1 kq l0 l1 x5_2 x6_1 x7_2=some r)∧Aside0 (kq≤k1)∧Aside0 (Kd.S (Kd.slice 3 (Kd.int .i64)) 72 w' w.heap.size (fun _=>True) (.slice (some ⟨go14,0,none⟩) x5_1.length co14) x5_2)∧Aside0 (Below w.heap.size w w'))
 case atStart=>exact ⟨(y374),(wrap64 ((l1.length:Int) - 1)),r0_,H',⟨Nat.le_refl _⟩,⟨by (with_reducible repeat (first|apply Kd.S_alloc|apply Kd.S_drewN|apply Kd.S_drew));exact HO_5.out⟩,⟨b0_⟩⟩
 case round=>
  (
 clear H'
 try clear c1
 try clear p1
 try clear q1
 try clear hx1
 try clear p2
 try clear c3
 try clear c4
 try clear c4b0
 try clear c4b1
 try clear c5
 try clear c5b0
 try clear c5b1
 try clear p6
 try clear c8
 try clear c8b0
 try clear c10
 try clear c10b0
 try clear c10b1
 try clear c11
 try clear c11b0
 try clear c11b1
 try clear c12
 try clear c12b0
 try clear c13
 try clear c13b0
 try clear c14
 try clear p14
 try clear q14
 try clear hx14
 try clear hf14
 try clear c17
 try clear hx17
 try clear hf17
 try clear hx14_0
 try clear hx17_0
 try clear p14
 try clear p2
 try clear p6
 try clear q14
 obtain ⟨x5_2,x7_2,rfl,HA,HK2,HO_5,HB⟩:=hrel
 have hl5_2:=(Kd.S_reads' HO_5.out).1
 rw [hl5_2] at HO_5
 (try simp only [hl5_2])
 cases gk with
 |zero=>exact absurd HA.out (by simp [bookplateref18_lengths.l1])
 |succ k2=>
  (
 have H:=HA.out
 clear HA
 simp only [bookplateref18_lengths.l1] at H
 have HC19:=Aside0.mk H
 clear H
 go_upto_region 7 with (fail)
 go_cut [35] (fun v35 wc=>∃ (kq:Nat) (x35_18:Bool),v35= .bool x35_18∧Aside0 (bookplateref18_lengths.j2 kq l0 l1 x5_2 x6_1 x7_2 x35_18=some r)∧Aside0 (kq≤k2)∧Aside0 (Kd.S (Kd.slice 3 (Kd.int .i64)) 72 wc w.heap.size (fun _=>True) (.slice (some ⟨go14,0,none⟩) x5_2.length co14) x5_2)∧Aside0 (Below w.heap.size w wc))
 case first=>
  (
 have H:=HC19.out
 clear HC19
 by_cases c20:x7_2≥0
 {
 rw [if_pos c20] at H
 have c20b0:decide (0≤x7_2)=true:=decide_eq_true c20
 clear c20
 (first|rw [c20b0]|(simp only [i64_w,i32_w];rw [c20b0])|skip)
 have H':=Aside0.mk H
 clear H
 go_wp2
 go_meet
 case rel=>exact ⟨_,(decide (x6_1<(l0.length:Int))),r0_,H',⟨by have:=HK1.out;have:=HK2.out;first|omega|exact Nat.le_refl _⟩,⟨by (try simp only [hl5_2]);(with_reducible repeat (first|apply Kd.S_alloc|apply Kd.S_drewN|apply Kd.S_drew));exact HO_5.out⟩,⟨b0_⟩⟩
 }
 {
 rw [if_neg c20] at H
 have c20b0:decide (0≤x7_2)=false:=decide_eq_false c20
 clear c20
 (first|rw [c20b0]|(simp only [i64_w,i32_w];rw [c20b0])|skip)
 have H':=Aside0.mk H
 clear H
 go_wp2
 go_meet
 case rel=>exact ⟨_,(false),r0_,H',⟨by have:=HK1.out;have:=HK2.out;first|omega|exact Nat.le_refl _⟩,⟨by (try simp only [hl5_2]);(with_reducible repeat (first|apply Kd.S_alloc|apply Kd.S_drewN|apply Kd.S_drew));exact HO_5.out⟩,⟨b0_⟩⟩
 }
  )
 case rest=>
  (
 clear HC19
 try clear c1
 try clear p1
 try clear q1
 try clear hx1
 try clear c2
 try clear p2
 try clear c3
 try clear c4
 try clear c4b0
 try clear c4b1
 try clear c5
 try clear c5b0
 try clear c5b1
 try clear p6
 try clear c8
 try clear c8b0
 try clear c10
 try clear c10b0
 try clear c10b1
 try clear c11
 try clear c11b0
 try clear c11b1
 try clear c12
 try clear c12b0
 try clear c13
 try clear c13b0
 try clear c14
 try clear p14
 try clear q14
 try clear hx14
 try clear hf14
 try clear c17
 try clear hx17
 try clear hf17
 try clear c20
 try clear c20b0
 try clear hx14_0
 try clear hx17_0
 try clear p1
 try clear p14
 try clear p2
 try clear p6
 try clear q1
 try clear q14
 obtain ⟨kq,x35_18,rfl,HA,HJ18,HO_5,HB⟩:=hcut
 cases kq with
 |zero=>exact absurd HA.out (by simp [bookplateref18_lengths.j2])
 |succ kj18=>
  (
 have H:=HA.out
 clear HA
 simp only [bookplateref18_lengths.j2] at H
 by_cases c21:x35_18=true
 {
 subst c21
 replace H:=tp_ H
 by_cases c22:0≤x6_1
 {
 rw [if_pos c22] at H
 have c22b0:decide (0≤x6_1)=true:=decide_eq_true c22
 clear c22
 by_cases c23:x6_1<(x5_2.length:Int)
 {
 rw [if_pos c23] at H
 have c23b0:decide (x6_1<(x5_2.length:Int))=true:=decide_eq_true c23
 clear c23
 obtain ⟨ji24,hji24⟩:∃ j_:Int,(wrap64 (x6_1+1))=j_:=⟨_,rfl⟩
 replace H:(if 0≤(ji24) then (if (ji24)<(x5_2.length:Int) then (if 0≤x7_2 then (if x7_2<((rd_L4 x5_2 (ji24)).length:Int) then (if 0≤(wrap64 (x7_2+1)) then (if (wrap64 (x7_2+1))<((rd_L4 x5_2 x6_1).length:Int) then (if x7_2<((rd_L4 x5_2 x6_1).length:Int) then ((some (x5_2.set (x6_1:Int).toNat ((rd_L4 x5_2 x6_1).set (x7_2:Int).toNat (mx (rd (rd_L4 x5_2 (ji24)) x7_2) (rd (rd_L4 x5_2 x6_1) (wrap64 (x7_2+1))))):List (List Int))).bind fun y382=>(if x6_1<(l0.length:Int) then (if x7_2<(l1.length:Int) then ((bookplateref12_SameField.f kj18 ((rd_T50 l0 x6_1).f0) ((rd_T50 l0 x6_1).f1.f0) ((rd_T50 l0 x6_1).f1.f1) ((rd_T50 l0 x6_1).f2) ((rd_T50 l1 x7_2).f0) ((rd_T50 l1 x7_2).f1.f0) ((rd_T50 l1 x7_2).f1.f1) ((rd_T50 l1 x7_2).f2)).bind fun t385=>(if t385=true then (if x7_2<((rd_L4 y382 x6_1).length:Int) then (if (wrap64 (x7_2+1))<((rd_L4 y382 (ji24)).length:Int) then (bookplateref18_lengths.l1 kj18 l0 l1 (y382.set (x6_1:Int).toNat ((rd_L4 y382 x6_1).set (x7_2:Int).toNat (mx (rd (rd_L4 y382 x6_1) x7_2) (wrap64 (1+(rd (rd_L4 y382 (ji24)) (wrap64 (x7_2+1)))))))) x6_1 (wrap64 (x7_2 - 1))) else (none)) else (none)) else (bookplateref18_lengths.l1 kj18 l0 l1 y382 x6_1 (wrap64 (x7_2 - 1))))) else (none)) else (none))) else (none)) else (none)) else (none)) else (none)) else (none)) else (none)) else (none))=some r:=by first|(rw [hji24] at H;exact H)|(simp only [hji24] at H⊢;exact H)
 have hji24w:(IntKind.i64.wrap (x6_1+1))=ji24:=(i64_w _).trans hji24
 by_cases c25:0≤(ji24)
 {
 rw [if_pos c25] at H
 have c25b0:decide (0≤(ji24))=true:=decide_eq_true c25
 clear c25
 by_cases c26:(ji24)<(x5_2.length:Int)
 {
 rw [if_pos c26] at H
 have c26b0:decide ((ji24)<(x5_2.length:Int))=true:=decide_eq_true c26
 clear c26
 by_cases c27:0≤x7_2
 {
 rw [if_pos c27] at H
 have c27b0:decide (0≤x7_2)=true:=decide_eq_true c27
 clear c27
 by_cases c28:x7_2<((rd_L4 x5_2 (ji24)).length:Int)
 {
 rw [if_pos c28] at H
 have c28b0:decide (x7_2<((rd_L4 x5_2 (ji24)).length:Int))=true:=decide_eq_true c28
 clear c28
 obtain ⟨ji29,hji29⟩:∃ j_:Int,(wrap64 (x7_2+1))=j_:=⟨_,rfl⟩
 replace H:(if 0≤(ji29) then (if (ji29)<((rd_L4 x5_2 x6_1).length:Int) then (if x7_2<((rd_L4 x5_2 x6_1).length:Int) then ((some (x5_2.set (x6_1:Int).toNat ((rd_L4 x5_2 x6_1).set (x7_2:Int).toNat (mx (rd (rd_L4 x5_2 (ji24)) x7_2) (rd (rd_L4 x5_2 x6_1) (ji29)))):List (List Int))).bind fun y382=>(if x6_1<(l0.length:Int) then (if x7_2<(l1.length:Int) then ((bookplateref12_SameField.f kj18 ((rd_T50 l0 x6_1).f0) ((rd_T50 l0 x6_1).f1.f0) ((rd_T50 l0 x6_1).f1.f1) ((rd_T50 l0 x6_1).f2) ((rd_T50 l1 x7_2).f0) ((rd_T50 l1 x7_2).f1.f0) ((rd_T50 l1 x7_2).f1.f1) ((rd_T50 l1 x7_2).f2)).bind fun t385=>(if t385=true then (if x7_2<((rd_L4 y382 x6_1).length:Int) then (if (ji29)<((rd_L4 y382 (ji24)).length:Int) then (bookplateref18_lengths.l1 kj18 l0 l1 (y382.set (x6_1:Int).toNat ((rd_L4 y382 x6_1).set (x7_2:Int).toNat (mx (rd (rd_L4 y382 x6_1) x7_2) (wrap64 (1+(rd (rd_L4 y382 (ji24)) (ji29))))))) x6_1 (wrap64 (x7_2 - 1))) else (none)) else (none)) else (bookplateref18_lengths.l1 kj18 l0 l1 y382 x6_1 (wrap64 (x7_2 - 1))))) else (none)) else (none))) else (none)) else (none)) else (none))=some r:=by first|(rw [hji29] at H;exact H)|(simp only [hji29] at H⊢;exact H)
 have hji29w:(IntKind.i64.wrap (x7_2+1))=ji29:=(i64_w _).trans hji29
 by_cases c30:0≤(ji29)
 {
 rw [if_pos c30] at H
 have c30b0:decide (0≤(ji29))=true:=decide_eq_true c30
 clear c30
 by_cases c31:(ji29)<((rd_L4 x5_2 x6_1).length:Int)
 {
 rw [if_pos c31] at H
 have c31b0:decide ((ji29)<((rd_L4 x5_2 x6_1).length:Int))=true:=decide_eq_true c31
 clear c31
 obtain ⟨ji32,hji32⟩:∃ j_:Int,(mx (rd (rd_L4 x5_2 (ji24)) x7_2) (rd (rd_L4 x5_2 x6_1) (ji29)))=j_:=⟨_,rfl⟩
 replace H:(if x7_2<((rd_L4 x5_2 x6_1).length:Int) then ((some (x5_2.set (x6_1:Int).toNat ((rd_L4 x5_2 x6_1).set (x7_2:Int).toNat (ji32)):List (List Int))).bind fun y382=>(if x6_1<(l0.length:Int) then (if x7_2<(l1.length:Int) then ((bookplateref12_SameField.f kj18 ((rd_T50 l0 x6_1).f0) ((rd_T50 l0 x6_1).f1.f0) ((rd_T50 l0 x6_1).f1.f1) ((rd_T50 l0 x6_1).f2) ((rd_T50 l1 x7_2).f0) ((rd_T50 l1 x7_2).f1.f0) ((rd_T50 l1 x7_2).f1.f1) ((rd_T50 l1 x7_2).f2)).bind fun t385=>(if t385=true then (if x7_2<((rd_L4 y382 x6_1).length:Int) then (if (ji29)<((rd_L4 y382 (ji24)).length:Int) then (bookplateref18_lengths.l1 kj18 l0 l1 (y382.set (x6_1:Int).toNat ((rd_L4 y382 x6_1).set (x7_2:Int).toNat (mx (rd (rd_L4 y382 x6_1) x7_2) (wrap64 (1+(rd (rd_L4 y382 (ji24)) (ji29))))))) x6_1 (wrap64 (x7_2 - 1))) else (none)) else (none)) else (bookplateref18_lengths.l1 kj18 l0 l1 y382 x6_1 (wrap64 (x7_2 - 1))))) else (none)) else (none))) else (none))=some r:=by first|(rw [hji32] at H;exact H)|(simp only [hji32] at H⊢;exact H)
 have hji32_:(if (rd (rd_L4 x5_2 (ji24)) x7_2)<(rd (rd_L4 x5_2 x6_1) (ji29)) then (rd (rd_L4 x5_2 x6_1) (ji29)) else (rd (rd_L4 x5_2 (ji24)) x7_2))=ji32:=hji32
 by_cases c33:x7_2<((rd_L4 x5_2 x6_1).length:Int)
 {
 rw [if_pos c33] at H
 have c33b0:decide (x7_2<((rd_L4 x5_2 x6_1).length:Int))=true:=decide_eq_true c33
 clear c33
 obtain ⟨y380,hy380⟩:∃ y_:List Int,y_=((rd_L4 x5_2 x6_1).set (x7_2:Int).toNat (ji32)):=⟨_,rfl⟩
 replace H:((some (x5_2.set (x6_1:Int).toNat y380:List (List Int))).bind fun y382=>(if x6_1<(l0.length:Int) then (if x7_2<(l1.length:Int) then ((bookplateref12_SameField.f kj18 ((rd_T50 l0 x6_1).f0) ((rd_T50 l0 x6_1).f1.f0) ((rd_T50 l0 x6_1).f1.f1) ((rd_T50 l0 x6_1).f2) ((rd_T50 l1 x7_2).f0) ((rd_T50 l1 x7_2).f1.f0) ((rd_T50 l1 x7_2).f1.f1) ((rd_T50 l1 x7_2).f2)).bind fun t385=>(if t385=true then (if x7_2<((rd_L4 y382 x6_1).length:Int) then (if (ji29)<((rd_L4 y382 (ji24)).length:Int) then (bookplateref18_lengths.l1 kj18 l0 l1 (y382.set (x6_1:Int).toNat ((rd_L4 y382 x6_1).set (x7_2:Int).toNat (mx (rd (rd_L4 y382 x6_1) x7_2) (wrap64 (1+(rd (rd_L4 y382 (ji24)) (ji29))))))) x6_1 (wrap64 (x7_2 - 1))) else (none)) else (none)) else (bookplateref18_lengths.l1 kj18 l0 l1 y382 x6_1 (wrap64 (x7_2 - 1))))) else (none)) else (none)))=some r:=by first|(rw [hy380];with_reducible exact H)|(have H2_:=(Option.bind_some _ _).symm.trans H;rw [hy380];with_reducible exact H2_)|(have H2_:=(Option.bind_some _ _).symm.trans H;with_reducible exact H2_)|with_reducible exact H|(rw [hy380];exact H)|exact H
 have Ny380:=Aside0.mk hy380
 clear hy380
 obtain ⟨y382,hy382⟩:∃ y_:List (List Int),y_=(x5_2.set (x6_1:Int).toNat y380):=⟨_,rfl⟩
 replace H:(if x6_1<(l0.length:Int) then (if x7_2<(l1.length:Int) then ((bookplateref12_SameField.f kj18 ((rd_T50 l0 x6_1).f0) ((rd_T50 l0 x6_1).f1.f0) ((rd_T50 l0 x6_1).f1.f1) ((rd_T50 l0 x6_1).f2) ((rd_T50 l1 x7_2).f0) ((rd_T50 l1 x7_2).f1.f0) ((rd_T50 l1 x7_2).f1.f1) ((rd_T50 l1 x7_2).f2)).bind fun t385=>(if t385=true then (if x7_2<((rd_L4 y382 x6_1).length:Int) then (if (ji29)<((rd_L4 y382 (ji24)).length:Int) then (bookplateref18_lengths.l1 kj18 l0 l1 (y382.set (x6_1:Int).toNat ((rd_L4 y382 x6_1).set (x7_2:Int).toNat (mx (rd (rd_L4 y382 x6_1) x7_2) (wrap64 (1+(rd (rd_L4 y382 (ji24)) (ji29))))))) x6_1 (wrap64 (x7_2 - 1))) else (none)) else (none)) else (bookplateref18_lengths.l1 kj18 l0 l1 y382 x6_1 (wrap64 (x7_2 - 1))))) else (none)) else (none))=some r:=by first|(rw [hy382];with_reducible exact H)|(have H2_:=(Option.bind_some _ _).symm.trans H;rw [hy382];with_reducible exact H2_)|(have H2_:=(Option.bind_some _ _).symm.trans H;with_reducible exact H2_)|with_reducible exact H|(rw [hy382];exact H)|exact H
 have Ny382:=Aside0.mk hy382
 clear hy382
 by_cases c35:x6_1<(l0.length:Int)
 {
 rw [if_pos c35] at H
 have c35b0:decide (x6_1<(l0.length:Int))=true:=decide_eq_true c35
 clear c35
 by_cases c36:x7_2<(l1.length:Int)
 {
 rw [if_pos c36] at H
 have c36b0:decide (x7_2<(l1.length:Int))=true:=decide_eq_true c36
 clear c36
 obtain ⟨t385,A37,H⟩:=ob_ H
 by_cases c38:t385=true
 {
 subst c38
 replace H:=tp_ H
 by_cases c39:x7_2<((rd_L4 y382 x6_1).length:Int)
 {
 rw [if_pos c39] at H
 have c39b0:decide (x7_2<((rd_L4 y382 x6_1).length:Int))=true:=decide_eq_true c39
 clear c39
 by_cases c40:(ji29)<((rd_L4 y382 (ji24)).length:Int)
 {
 rw [if_pos c40] at H
 have c40b0:decide ((ji29)<((rd_L4 y382 (ji24)).length:Int))=true:=decide_eq_true c40
 clear c40
 obtain ⟨ji41,hji41⟩:∃ j_:Int,(mx (rd (rd_L4 y382 x6_1) x7_2) (wrap64 (1+(rd (rd_L4 y382 (ji24)) (ji29)))))=j_:=⟨_,rfl⟩
 replace H:(bookplateref18_lengths.l1 kj18 l0 l1 (y382.set (x6_1:Int).toNat ((rd_L4 y382 x6_1).set (x7_2:Int).toNat (ji41))) x6_1 (wrap64 (x7_2 - 1)))=some r:=by first|(rw [hji41] at H;exact H)|(simp only [hji41] at H⊢;exact H)
 (try rw [hji41] at A37)
 have hji41_:(if (rd (rd_L4 y382 x6_1) x7_2)<(wrap64 (1+(rd (rd_L4 y382 (ji24)) (ji29)))) then (wrap64 (1+(rd (rd_L4 y382 (ji24)) (ji29)))) else (rd (rd_L4 y382 x6_1) x7_2))=ji41:=hji41
 obtain ⟨y391,hy391⟩:∃ y_:List Int,y_=((rd_L4 y382 x6_1).set (x7_2:Int).toNat (ji41)):=⟨_,rfl⟩
 replace H:(bookplateref18_lengths.l1 kj18 l0 l1 (y382.set (x6_1:Int).toNat y391) x6_1 (wrap64 (x7_2 - 1)))=some r:=by first|(rw [hy391];with_reducible exact H)|(have H2_:=(Option.bind_some _ _).symm.trans H;rw [hy391];with_reducible exact H2_)|(have H2_:=(Option.bind_some _ _).symm.trans H;with_reducible exact H2_)|with_reducible exact H|(rw [hy391];exact H)|exact H
 have Ny391:=Aside0.mk hy391
 clear hy391
 obtain ⟨y393,hy393⟩:∃ y_:List (List Int),y_=(y382.set (x6_1:Int).toNat y391):=⟨_,rfl⟩
 replace H:(bookplateref18_lengths.l1 kj18 l0 l1 y393 x6_1 (wrap64 (x7_2 - 1)))=some r:=by first|(rw [hy393];with_reducible exact H)|(have H2_:=(Option.bind_some _ _).symm.trans H;rw [hy393];with_reducible exact H2_)|(have H2_:=(Option.bind_some _ _).symm.trans H;with_reducible exact H2_)|with_reducible exact H|(rw [hy393];exact H)|exact H
 have Ny393:=Aside0.mk hy393
 clear hy393
 have H':=Aside0.mk H
 clear H
 try go_wp2
 have n0_:=Aside0.mk (Kd.S_drew HO_5.out)
 have n1_:=Aside0.mk (below_drew1 HB.out)
 clear HO_5
 clear HB
 have HO_5:=n0_
 have HB:=n1_
 clear n0_ n1_
 have p375:0≤(x6_1:Int):=od_
 have q375:x6_1<(x5_2.length:Int):=od_
 obtain ⟨ad375,A375_0,c375_0,e375,hx375_0,hl375_0,hi375_0⟩:=at_L4 (Kd.S_reads' HO_5.out).2.2 x6_1 p375 q375
 obtain rfl:(⟨go14,0,none⟩:Addr)=ad375:=(by injection e375)
 obtain ⟨ce375,hce375,hMe375,hcc375⟩:=Kd.S_get HO_5.out [] x6_1 p375 (by first|exact q375|exact od_|(have e_:=(Kd.S_reads' HO_5.out).1;omega))
 obtain ⟨ve375_0,rfl,ge375_0⟩:=hMe375
 have hv375_0:=hcc375 0 _ rfl
 rw [Nat.add_zero,show ((Kd.slice 3 (Kd.int .i64))).sz=1 from rfl,Nat.mul_one] at hv375_0
 replace hv375_0:=Option.some.inj (hv375_0.symm.trans hx375_0)
 rw [hv375_0] at ge375_0
 have HL375_0:=Aside0.mk (show Kd.R (Kd.int .i64) 3 _ _ _ _ (rd_L4 x5_2 x6_1) from ge375_0)
 clear hv375_0 ge375_0
 have HX375_0:=Aside0.mk hx375_0
 clear hcc375 hce375
 (first|simp only [add_plain] at hx375_0|simp only [add_at] at hx375_0|simp only [Addr.add,Nat.zero_add] at hx375_0|skip)
 have HR375_0:=Aside0.mk hi375_0
 have HC375_0:=Aside0.mk hl375_0
 clear hi375_0 hl375_0
 replace p375:=eq_true p375
 replace q375:=eq_true q375
 have p376:0≤((ji24):Int):=od_
 have q376:(ji24)<(x5_2.length:Int):=od_
 obtain ⟨ad376,A376_0,c376_0,e376,hx376_0,hl376_0,hi376_0⟩:=at_L4 (Kd.S_reads' HO_5.out).2.2 (ji24) p376 q376
 obtain rfl:(⟨go14,0,none⟩:Addr)=ad376:=(by injection e376)
 obtain ⟨ce376,hce376,hMe376,hcc376⟩:=Kd.S_get HO_5.out [] (ji24) p376 (by first|exact q376|exact od_|(have e_:=(Kd.S_reads' HO_5.out).1;omega))
 obtain ⟨ve376_0,rfl,ge376_0⟩:=hMe376
 have hv376_0:=hcc376 0 _ rfl
 rw [Nat.add_zero,show ((Kd.slice 3 (Kd.int .i64))).sz=1 from rfl,Nat.mul_one] at hv376_0
 replace hv376_0:=Option.some.inj (hv376_0.symm.trans hx376_0)
 rw [hv376_0] at ge376_0
 have HL376_0:=Aside0.mk (show Kd.R (Kd.int .i64) 3 _ _ _ _ (rd_L4 x5_2 (ji24)) from ge376_0)
 clear hv376_0 ge376_0
 have HX376_0:=Aside0.mk hx376_0
 clear hcc376 hce376
 (first|simp only [add_plain] at hx376_0|simp only [add_at] at hx376_0|simp only [Addr.add,Nat.zero_add] at hx376_0|skip)
 have HR376_0:=Aside0.mk hi376_0
 have HC376_0:=Aside0.mk hl376_0
 clear hi376_0 hl376_0
 replace p376:=eq_true p376
 replace q376:=eq_true q376
 have p377:0≤(x7_2:Int):=od_
 have q377:x7_2<((rd_L4 x5_2 (ji24)).length:Int):=od_
 obtain ⟨ad377,e377,hx377_0⟩:=Kd.at_int (c1_ HR376_0) x7_2 p377 q377
 cases e377
 replace p377:=eq_true p377
 replace q377:=eq_true q377
 have p378:0≤(x6_1:Int):=od_
 have q378:x6_1<(x5_2.length:Int):=od_
 obtain ⟨ad378,A378_0,c378_0,e378,hx378_0,hl378_0,hi378_0⟩:=at_L4 (Kd.S_reads' HO_5.out).2.2 x6_1 p378 q378
 obtain rfl:(⟨go14,0,none⟩:Addr)=ad378:=(by injection e378)
 obtain ⟨ce378,hce378,hMe378,hcc378⟩:=Kd.S_get HO_5.out [] x6_1 p378 (by first|exact q378|exact od_|(have e_:=(Kd.S_reads' HO_5.out).1;omega))
 obtain ⟨ve378_0,rfl,ge378_0⟩:=hMe378
 have hv378_0:=hcc378 0 _ rfl
 rw [Nat.add_zero,show ((Kd.slice 3 (Kd.int .i64))).sz=1 from rfl,Nat.mul_one] at hv378_0
 replace hv378_0:=Option.some.inj (hv378_0.symm.trans hx378_0)
 rw [hv378_0] at ge378_0
 have HL378_0:=Aside0.mk (show Kd.R (Kd.int .i64) 3 _ _ _ _ (rd_L4 x5_2 x6_1) from ge378_0)
 clear hv378_0 ge378_0
 have HX378_0:=Aside0.mk hx378_0
 clear hcc378 hce378
 (first|simp only [add_plain] at hx378_0|simp only [add_at] at hx378_0|simp only [Addr.add,Nat.zero_add] at hx378_0|skip)
 have HR378_0:=Aside0.mk hi378_0
 have HC378_0:=Aside0.mk hl378_0
 clear hi378_0 hl378_0
 replace p378:=eq_true p378
 replace q378:=eq_true q378
 have ea_:=Option.some.inj (hx375_0.symm.trans hx378_0)
 injection ea_ with ea_ en_ ec_
 subst ea_
 subst ec_
 clear en_
 have p379:0≤((ji29):Int):=od_
 have q379:(ji29)<((rd_L4 x5_2 x6_1).length:Int):=od_
 obtain ⟨ad379,e379,hx379_0⟩:=Kd.at_int (c1_ HR378_0) (ji29) p379 q379
 cases e379
 replace p379:=eq_true p379
 replace q379:=eq_true q379
 have p34:0≤(x7_2:Int):=od_
 have q34:(x7_2:Int)<(((rd_L4 x5_2 x6_1).length:Int):Int):=od_
 obtain ⟨go34,co34,eo34,gb34,gl34,cl34,HG34⟩:=Kd.R_form HL375_0.out (by omega)
 (first|cases eo34|(injection eo34 with ea_ en_ ec_;(first|subst ea_|(injection ea_ with ea_;subst ea_));subst ec_;clear en_))
 have GB34:=Aside0.mk gb34
 have GG34:=Aside0.mk HG34
 clear gb34 gl34 HG34
 (first|simp only [add_plain] at hx379_0|skip)
 obtain ⟨hx34_0,hf34_0⟩:=Kd.R_celln 0 HL375_0.out (x7_2:Int) p34 q34
 replace p34:=eq_true p34
 replace q34:=eq_true q34
 have hq44:(x6_1:Int)<(x5_2.length:Int):=(by have h_:(x6_1:Int)<((x5_2.length:Int):Int):=od_;first|exact h_|(have e_:=(Kd.S_reads' HO_5.out).1;omega)|simpa only [List.length_set,List.length_set] using h_)
 obtain ⟨oki44,ce44,hcl44,hM44,hcc44,hok44,hbk44⟩:=Kd.S_borrow HO_5.out [] (x6_1:Int) od_ (by first|exact hq44|exact od_)
 obtain ⟨ve44_0,rfl,ge44_0⟩:=hM44
 have hv44:=hcc44 0 _ rfl
 rw [Nat.add_zero,show ((Kd.slice 3 (Kd.int .i64))).sz=1 from rfl,Nat.mul_one] at hv44
 replace hv44:=Option.some.inj (hv44.symm.trans HX375_0.out)
 subst hv44
 clear hcc44 hcl44
 replace ge44_0:=(show Kd.R (Kd.int .i64) 3 _ _ _ _ (rd_L4 x5_2 x6_1) from ge44_0)
 have HP44:=Kd.R_putg ge44_0 (x7_2:Int) ji32
 rw [←Ny380.out] at HP44
 have HS44:=hbk44 HP44.2 (fun k_ e_=>by injection e_ with e_;subst e_;exact ge44_0.1 _ rfl) (x':=y380) (Kd.M_row HP44.1)
 rw [←Ny382.out] at HS44
 have HQ44:=Aside0.mk HS44
 clear HP44 HS44 hbk44 hok44
 refine start_ (n:=24) (S:=fun w'=>w'.cell? ⟨go14,(x6_1).toNat,none⟩=some (.slice (some (⟨go34,0,none⟩:Addr)) (rd_L4 x5_2 x6_1).length c375_0)∧w'.cell? ⟨go14,((ji24)).toNat,none⟩=some (.slice (some ad377) (rd_L4 x5_2 (ji24)).length c376_0)∧w'.cell? (ad377.add (x7_2).toNat)=some (.int .i64 (rd (rd_L4 x5_2 (ji24)) x7_2))∧w'.cell? ⟨go14,(x6_1).toNat,none⟩=some (.slice (some (⟨go34,0,none⟩:Addr)) (rd_L4 x5_2 x6_1).length c375_0)∧w'.cell? ⟨go34,((ji29)).toNat,none⟩=some (.int .i64 (rd (rd_L4 x5_2 x6_1) (ji29)))) (ds:=[23]) #[false,false,false,false,false,false,false,false,false,false,false,false,false,false,false,false,false,false,false,false,false,false,false,false] (by kernel_rfl) rfl rfl ⟨hx375_0,hx376_0,hx377_0,hx378_0,hx379_0⟩ (fun hHeld=> ?_);refine with_tabW bookplateref18_lengths.tab9 bookplateref18_lengths.bits9 (fun HT_ HW_=> ?_)
 generalize wc.drew=w43 at HO_5 HB GG34 HL375_0 HL376_0 HL378_0 HQ44 HR375_0 HR376_0 HR378_0 HX375_0 HX376_0 HX378_0 hf34_0 hx34_0 hx375_0 hx376_0 hx377_0 hx378_0 hx379_0 hHeld⊢
 refine pA_ (i:=0) (N:=some 38) HT_ ?_
 refine pA_ (i:=1) (N:=some 39) HT_ ?_
 refine pA_ (i:=2) (N:=some 40) HT_ ?_
 refine pA_ (i:=4) (N:=some 42) HT_ ?_
 refine pA_ (i:=5) (N:=some 43) HT_ ?_
 refine pA_ (i:=6) (N:=some 44) HT_ ?_
 refine pA_ (i:=7) (N:=some 45) HT_ ?_
 refine pA_ (i:=8) (N:=some 46) HT_ ?_
 refine pA_ (i:=10) (N:=some 48) HT_ ?_
 refine pA_ (i:=13) (N:=some 51) HT_ ?_
 refine pA_ (i:=14) (N:=some 52) HT_ ?_
 refine pA_ (i:=15) (N:=some 53) HT_ ?_
 refine pA_ (i:=17) (N:=some 55) HT_ ?_
 refine pA_ (i:=18) (N:=some 56) HT_ ?_
 refine tA_ (i:=3) (N:=some 41) HT_ HW_ hHeld ?_
 refine tA_ (i:=9) (N:=some 47) HT_ HW_ hHeld ?_
 refine pA_ (i:=11) (N:=some 49) HT_ ?_
 refine tA_ (i:=12) (N:=some 50) HT_ HW_ hHeld ?_
 refine tA_ (i:=16) (N:=some 54) HT_ HW_ hHeld ?_
 refine pA_ (i:=19) (N:=some 57) HT_ ?_
 refine tA_ (i:=20) (N:=some 58) HT_ HW_ hHeld ?_
 refine pA_ (i:=21) (N:=some 59) HT_ ?_
 refine pA_ (i:=22) (N:=some 60) HT_ ?_
 refine last_ (i:=23) (N:=none) #[true,true,true,true,true,true,true,true,true,true,true,true,true,true,true,true,true,true,true,true,true,true,true,true] rfl rfl (one_of HT_.out (by kernel_rfl)) (by decide) (fun K hK=> ?_)
 refine skip_ (w1:=?_) (by rfl) rfl ?_ ?_
 rotate_left
 {
 go_simp
 rfl
 }
 refine hK.out _ _ ?_
 clear hK K
 refine done_ (done_of HT_.out (by kernel_rfl)) ?_
 try go_wp2
 have n0_:Aside0 (Kd.S (Kd.slice 3 (Kd.int .i64)) 72 (w43.setCell ⟨go34,(x7_2:Int).toNat,none⟩ (.int .i64 ji32)) w.heap.size (fun _=>True) (.slice (some ⟨go14,0,none⟩) x5_2.length co14) y382):=⟨by (with_reducible repeat (first|apply Kd.S_alloc|apply Kd.S_drewN|apply Kd.S_drew));exact HQ44.out⟩
 have n1_:Aside0 (Below w.heap.size w (w43.setCell ⟨go34,(x7_2:Int).toNat,none⟩ (.int .i64 ji32))):=⟨by repeat (first|(with_reducible first|exact HB.out|apply below_alloc|apply pw_below_drewN|apply below_drew1|refine below_set ?_ GB34.out)|exact HB.out)⟩
 (try clear HO_5)
 (try clear HB)
 generalize (w43.setCell ⟨go34,(x7_2:Int).toNat,none⟩ (.int .i64 ji32))=w46 at n0_ n1_⊢
 have HO_5:=n0_
 have HB:=n1_
 clear n0_ n1_
 have n0_:=Aside0.mk (Kd.S_drew HO_5.out)
 have n1_:=Aside0.mk (below_drew1 HB.out)
 clear HO_5
 clear HB
 have HO_5:=n0_
 have HB:=n1_
 clear n0_ n1_
 have p383:0≤(x6_1:Int):=od_
 have q383:x6_1<(l0.length:Int):=od_
 obtain ⟨ad383,A383_3,c383_3,e383,hx383_0,hx383_1,hx383_2,hx383_3,hl383_3,hi383_3⟩:=at_T50 HR0.out x6_1 p383 q383
 have hw383_3:=hx383_3
 have hw383_2:=hx383_2
 have hw383_1:=hx383_1
 have hw383_0:=hx383_0
 cases e383
 replace hx383_0:=cel_ HB hx383_0
 replace hx383_1:=cel_ HB hx383_1
 replace hx383_2:=cel_ HB hx383_2
 replace hx383_3:=cel_ HB hx383_3
 have HR383_3:=Aside0.mk hi383_3
 have HC383_3:=Aside0.mk hl383_3
 clear hi383_3 hl383_3
 replace p383:=eq_true p383
 replace q383:=eq_true q383
 have p384:0≤(x7_2:Int):=od_
 have q384:x7_2<(l1.length:Int):=od_
 obtain ⟨ad384,A384_3,c384_3,e384,hx384_0,hx384_1,hx384_2,hx384_3,hl384_3,hi384_3⟩:=at_T50 HR1.out x7_2 p384 q384
 have hw384_3:=hx384_3
 have hw384_2:=hx384_2
 have hw384_1:=hx384_1
 have hw384_0:=hx384_0
 cases e384
 replace hx384_0:=cel_ HB hx384_0
 replace hx384_1:=cel_ HB hx384_1
 replace hx384_2:=cel_ HB hx384_2
 replace hx384_3:=cel_ HB hx384_3
 have HR384_3:=Aside0.mk hi384_3
 have HC384_3:=Aside0.mk hl384_3
 clear hi384_3 hl384_3
 replace p384:=eq_true p384
 replace q384:=eq_true q384
 refine start_ (n:=9) (S:=fun w'=>w'.cell? (ad383.add ((x6_1).toNat * 4))=some (.string ((rd_T50 l0 x6_1).f0))∧w'.cell? ⟨(ad383.add ((x6_1).toNat * 4)).block,(ad383.add ((x6_1).toNat * 4)).off+1,none⟩=some (.int .u8 ((rd_T50 l0 x6_1).f1.f0))∧w'.cell? ⟨(ad383.add ((x6_1).toNat * 4)).block,(ad383.add ((x6_1).toNat * 4)).off+2,none⟩=some (.int .u8 ((rd_T50 l0 x6_1).f1.f1))∧w'.cell? ⟨(ad383.add ((x6_1).toNat * 4)).block,(ad383.add ((x6_1).toNat * 4)).off+3,none⟩=some (.slice A383_3 ((rd_T50 l0 x6_1).f2).length c383_3)∧w'.cell? (ad384.add ((x7_2).toNat * 4))=some (.string ((rd_T50 l1 x7_2).f0))∧w'.cell? ⟨(ad384.add ((x7_2).toNat * 4)).block,(ad384.add ((x7_2).toNat * 4)).off+1,none⟩=some (.int .u8 ((rd_T50 l1 x7_2).f1.f0))∧w'.cell? ⟨(ad384.add ((x7_2).toNat * 4)).block,(ad384.add ((x7_2).toNat * 4)).off+2,none⟩=some (.int .u8 ((rd_T50 l1 x7_2).f1.f1))∧w'.cell? ⟨(ad384.add ((x7_2).toNat * 4)).block,(ad384.add ((x7_2).toNat * 4)).off+3,none⟩=some (.slice A384_3 ((rd_T50 l1 x7_2).f2).length c384_3)) (ds:=[]) #[false,false,false,false,false,false,false,false,false] (by kernel_rfl) rfl rfl ⟨(cel_ HB hw383_0),(cel_ HB hw383_1),(cel_ HB hw383_2),(cel_ HB hw383_3),(cel_ HB hw384_0),(cel_ HB hw384_1),(cel_ HB hw384_2),(cel_ HB hw384_3)⟩ (fun hHeld=> ?_);refine with_tabW bookplateref18_lengths.tab10 bookplateref18_lengths.bits10 (fun HT_ HW_=> ?_)
 generalize w46.drew=w47 at HO_5 HB HQ44 HR383_3 HR384_3 hx383_0 hx383_1 hx383_2 hx383_3 hx384_0 hx384_1 hx384_2 hx384_3 hHeld⊢
 refine pA_ (i:=0) (N:=some 61) HT_ ?_
 refine pA_ (i:=1) (N:=some 62) HT_ ?_
 refine pA_ (i:=2) (N:=some 63) HT_ ?_
 refine pA_ (i:=4) (N:=some 65) HT_ ?_
 refine pA_ (i:=5) (N:=some 66) HT_ ?_
 refine pA_ (i:=6) (N:=some 67) HT_ ?_
 refine tA_ (i:=3) (N:=some 64) HT_ HW_ hHeld ?_
 refine tA_ (i:=7) (N:=some 68) HT_ HW_ hHeld ?_
 refine one_ (i:=8) (N:=some 69) #[true,true,true,true,true,true,true,true,true] rfl rfl (one_of HT_.out (by kernel_rfl)) (by decide) (fun K hK=> ?_)
 refine goes_ Tryd.func40 (by kernel_rfl) rfl #[.agg #[.string ((rd_T50 l0 x6_1).f0),.int .u8 ((rd_T50 l0 x6_1).f1.f0),.int .u8 ((rd_T50 l0 x6_1).f1.f1),.slice A383_3 ((rd_T50 l0 x6_1).f2).length c383_3],.agg #[.string ((rd_T50 l1 x7_2).f0),.int .u8 ((rd_T50 l1 x7_2).f1.f0),.int .u8 ((rd_T50 l1 x7_2).f1.f1),.slice A384_3 ((rd_T50 l1 x7_2).f2).length c384_3]] (by rfl) rfl rfl ml_ ?_
 with_reducible refine (bookplateref12_SameField.calls kj18 ((rd_T50 l0 x6_1).f0) ((rd_T50 l0 x6_1).f1.f0) ((rd_T50 l0 x6_1).f1.f1) _ _ ((rd_T50 l0 x6_1).f2) ((rd_T50 l1 x7_2).f0) ((rd_T50 l1 x7_2).f1.f0) ((rd_T50 l1 x7_2).f1.f1) _ _ ((rd_T50 l1 x7_2).f2) true _ ?side1 ?side2 ?side3 ?side4 A37.out).mono ?_
 (case side1=>exact c0_)
 (case side2=>exact HC383_3.out)
 (case side3=>exact c0_)
 (case side4=>exact HC384_3.out)
 rintro e w48 ⟨rfl,hb⟩
 refine ⟨_,rfl,?_⟩
 have n0_:=Aside0.mk (Kd.S_below (xS_ HO_5) hb)
 have n1_:=Aside0.mk (below_step b0_ hb)
 clear HO_5
 clear HB
 have HO_5:=n0_
 have HB:=n1_
 clear n0_ n1_
 (try clear hb)
 (try clear hk)
 refine hK.out _ _ ⟨(cel_ HB hw383_0),(cel_ HB hw383_1),(cel_ HB hw383_2),(cel_ HB hw383_3),(cel_ HB hw384_0),(cel_ HB hw384_1),(cel_ HB hw384_2),(cel_ HB hw384_3)⟩ (fun hHeld=> ?_)
 clear hK K
 refine norm_ (a':=?_) ?_ ?_
 rotate_left
 {
 show Act.put _ (some 69) _=_
 simp only [Act.put,List.setIfInBounds_toArray,List.set_cons_zero,List.set_cons_succ,i64_w,i32_w]
 rfl
 }
 refine done_ (done_of HT_.out (by kernel_rfl)) ?_
 try go_wp2
 have n0_:=Aside0.mk (Kd.S_drew HO_5.out)
 have n1_:=Aside0.mk (below_drew1 HB.out)
 clear HO_5
 clear HB
 have HO_5:=n0_
 have HB:=n1_
 clear n0_ n1_
 have p386:0≤(x6_1:Int):=od_
 have q386:x6_1<(y382.length:Int):=(by have h_:(x6_1:Int)<((x5_2.length:Int):Int):=od_;first|(have e_:=(Kd.S_reads' HO_5.out).1;omega)|simpa only [Ny382.out,List.length_set] using h_)
 have ql386:((x6_1:Int)<((x5_2.length:Int):Int))=True:=eq_true od_
 obtain ⟨ad386,A386_0,c386_0,e386,hx386_0,hl386_0,hi386_0⟩:=at_L4 (Kd.S_reads' HO_5.out).2.2 x6_1 p386 q386
 obtain rfl:(⟨go14,0,none⟩:Addr)=ad386:=(by injection e386)
 obtain ⟨ce386,hce386,hMe386,hcc386⟩:=Kd.S_get HO_5.out [] x6_1 p386 (by first|exact q386|exact od_|(have e_:=(Kd.S_reads' HO_5.out).1;omega))
 obtain ⟨ve386_0,rfl,ge386_0⟩:=hMe386
 have hv386_0:=hcc386 0 _ rfl
 rw [Nat.add_zero,show ((Kd.slice 3 (Kd.int .i64))).sz=1 from rfl,Nat.mul_one] at hv386_0
 replace hv386_0:=Option.some.inj (hv386_0.symm.trans hx386_0)
 rw [hv386_0] at ge386_0
 have HL386_0:=Aside0.mk (show Kd.R (Kd.int .i64) 3 _ _ _ _ (rd_L4 y382 x6_1) from ge386_0)
 clear hv386_0 ge386_0
 have HX386_0:=Aside0.mk hx386_0
 clear hcc386 hce386
 (first|simp only [add_plain] at hx386_0|simp only [add_at] at hx386_0|simp only [Addr.add,Nat.zero_add] at hx386_0|skip)
 have HR386_0:=Aside0.mk hi386_0
 have HC386_0:=Aside0.mk hl386_0
 clear hi386_0 hl386_0
 replace p386:=eq_true p386
 replace q386:=eq_true q386
 have p387:0≤(x6_1:Int):=od_
 have q387:x6_1<(y382.length:Int):=(by have h_:(x6_1:Int)<((x5_2.length:Int):Int):=od_;first|(have e_:=(Kd.S_reads' HO_5.out).1;omega)|simpa only [Ny382.out,List.length_set] using h_)
 have ql387:((x6_1:Int)<((x5_2.length:Int):Int))=True:=eq_true od_
 obtain ⟨ad387,A387_0,c387_0,e387,hx387_0,hl387_0,hi387_0⟩:=at_L4 (Kd.S_reads' HO_5.out).2.2 x6_1 p387 q387
 obtain rfl:(⟨go14,0,none⟩:Addr)=ad387:=(by injection e387)
 obtain ⟨ce387,hce387,hMe387,hcc387⟩:=Kd.S_get HO_5.out [] x6_1 p387 (by first|exact q387|exact od_|(have e_:=(Kd.S_reads' HO_5.out).1;omega))
 obtain ⟨ve387_0,rfl,ge387_0⟩:=hMe387
 have hv387_0:=hcc387 0 _ rfl
 rw [Nat.add_zero,show ((Kd.slice 3 (Kd.int .i64))).sz=1 from rfl,Nat.mul_one] at hv387_0
 replace hv387_0:=Option.some.inj (hv387_0.symm.trans hx387_0)
 rw [hv387_0] at ge387_0
 have HL387_0:=Aside0.mk (show Kd.R (Kd.int .i64) 3 _ _ _ _ (rd_L4 y382 x6_1) from ge387_0)
 clear hv387_0 ge387_0
 have HX387_0:=Aside0.mk hx387_0
 clear hcc387 hce387
 (first|simp only [add_plain] at hx387_0|simp only [add_at] at hx387_0|simp only [Addr.add,Nat.zero_add] at hx387_0|skip)
 have HR387_0:=Aside0.mk hi387_0
 have HC387_0:=Aside0.mk hl387_0
 clear hi387_0 hl387_0
 replace p387:=eq_true p387
 replace q387:=eq_true q387
 have ea_:=Option.some.inj (hx386_0.symm.trans hx387_0)
 injection ea_ with ea_ en_ ec_
 subst ea_
 subst ec_
 clear en_
 have p388:0≤(x7_2:Int):=od_
 have q388:x7_2<((rd_L4 y382 x6_1).length:Int):=od_
 obtain ⟨ad388,e388,hx388_0⟩:=Kd.at_int (c1_ HR387_0) x7_2 p388 q388
 cases e388
 replace p388:=eq_true p388
 replace q388:=eq_true q388
 have p389:0≤((ji24):Int):=od_
 have q389:(ji24)<(y382.length:Int):=(by have h_:((ji24):Int)<((x5_2.length:Int):Int):=od_;first|(have e_:=(Kd.S_reads' HO_5.out).1;omega)|simpa only [Ny382.out,List.length_set] using h_)
 have ql389:(((ji24):Int)<((x5_2.length:Int):Int))=True:=eq_true od_
 obtain ⟨ad389,A389_0,c389_0,e389,hx389_0,hl389_0,hi389_0⟩:=at_L4 (Kd.S_reads' HO_5.out).2.2 (ji24) p389 q389
 obtain rfl:(⟨go14,0,none⟩:Addr)=ad389:=(by injection e389)
 obtain ⟨ce389,hce389,hMe389,hcc389⟩:=Kd.S_get HO_5.out [] (ji24) p389 (by first|exact q389|exact od_|(have e_:=(Kd.S_reads' HO_5.out).1;omega))
 obtain ⟨ve389_0,rfl,ge389_0⟩:=hMe389
 have hv389_0:=hcc389 0 _ rfl
 rw [Nat.add_zero,show ((Kd.slice 3 (Kd.int .i64))).sz=1 from rfl,Nat.mul_one] at hv389_0
 replace hv389_0:=Option.some.inj (hv389_0.symm.trans hx389_0)
 rw [hv389_0] at ge389_0
 have HL389_0:=Aside0.mk (show Kd.R (Kd.int .i64) 3 _ _ _ _ (rd_L4 y382 (ji24)) from ge389_0)
 clear hv389_0 ge389_0
 have HX389_0:=Aside0.mk hx389_0
 clear hcc389 hce389
 (first|simp only [add_plain] at hx389_0|simp only [add_at] at hx389_0|simp only [Addr.add,Nat.zero_add] at hx389_0|skip)
 have HR389_0:=Aside0.mk hi389_0
 have HC389_0:=Aside0.mk hl389_0
 clear hi389_0 hl389_0
 replace p389:=eq_true p389
 replace q389:=eq_true q389
 have p390:0≤((ji29):Int):=od_
 have q390:(ji29)<((rd_L4 y382 (ji24)).length:Int):=od_
 obtain ⟨ad390,e390,hx390_0⟩:=Kd.at_int (c1_ HR389_0) (ji29) p390 q390
 cases e390
 replace p390:=eq_true p390
 replace q390:=eq_true q390
 have p42:0≤(x7_2:Int):=od_
 have q42:(x7_2:Int)<(((rd_L4 y382 x6_1).length:Int):Int):=od_
 obtain ⟨go42,co42,eo42,gb42,gl42,cl42,HG42⟩:=Kd.R_form HL386_0.out (by omega)
 (first|cases eo42|(injection eo42 with ea_ en_ ec_;(first|subst ea_|(injection ea_ with ea_;subst ea_));subst ec_;clear en_))
 have GB42:=Aside0.mk gb42
 have GG42:=Aside0.mk HG42
 clear gb42 gl42 HG42
 (first|simp only [add_plain] at hx388_0|skip)
 obtain ⟨hx42_0,hf42_0⟩:=Kd.R_celln 0 HL386_0.out (x7_2:Int) p42 q42
 replace p42:=eq_true p42
 replace q42:=eq_true q42
 have hq50:(x6_1:Int)<(y382.length:Int):=(by have h_:(x6_1:Int)<((x5_2.length:Int):Int):=od_;first|exact h_|(have e_:=(Kd.S_reads' HO_5.out).1;omega)|simpa only [Ny382.out,List.length_set] using h_)
 obtain ⟨oki50,ce50,hcl50,hM50,hcc50,hok50,hbk50⟩:=Kd.S_borrow HO_5.out [] (x6_1:Int) od_ (by first|exact hq50|exact od_)
 obtain ⟨ve50_0,rfl,ge50_0⟩:=hM50
 have hv50:=hcc50 0 _ rfl
 rw [Nat.add_zero,show ((Kd.slice 3 (Kd.int .i64))).sz=1 from rfl,Nat.mul_one] at hv50
 replace hv50:=Option.some.inj (hv50.symm.trans HX386_0.out)
 subst hv50
 clear hcc50 hcl50
 replace ge50_0:=(show Kd.R (Kd.int .i64) 3 _ _ _ _ (rd_L4 y382 x6_1) from ge50_0)
 have HP50:=Kd.R_putg ge50_0 (x7_2:Int) ji41
 rw [←Ny391.out] at HP50
 have HS50:=hbk50 HP50.2 (fun k_ e_=>by injection e_ with e_;subst e_;exact ge50_0.1 _ rfl) (x':=y391) (Kd.M_row HP50.1)
 rw [←Ny393.out] at HS50
 have HQ50:=Aside0.mk HS50
 clear HP50 HS50 hbk50 hok50
 refine start_ (n:=25) (S:=fun w'=>w'.cell? ⟨go14,(x6_1).toNat,none⟩=some (.slice (some (⟨go42,0,none⟩:Addr)) (rd_L4 y382 x6_1).length c386_0)∧w'.cell? ⟨go14,(x6_1).toNat,none⟩=some (.slice (some (⟨go42,0,none⟩:Addr)) (rd_L4 y382 x6_1).length c386_0)∧w'.cell? ⟨go42,(x7_2).toNat,none⟩=some (.int .i64 (rd (rd_L4 y382 x6_1) x7_2))∧w'.cell? ⟨go14,((ji24)).toNat,none⟩=some (.slice (some ad390) (rd_L4 y382 (ji24)).length c389_0)∧w'.cell? (ad390.add ((ji29)).toNat)=some (.int .i64 (rd (rd_L4 y382 (ji24)) (ji29)))) (ds:=[24]) #[false,false,false,false,false,false,false,false,false,false,false,false,false,false,false,false,false,false,false,false,false,false,false,false,false] (by kernel_rfl) rfl rfl ⟨hx386_0,hx387_0,hx388_0,hx389_0,hx390_0⟩ (fun hHeld=> ?_);refine with_tabW bookplateref18_lengths.tab11 bookplateref18_lengths.bits11 (fun HT_ HW_=> ?_)
 generalize w48.drew=w49 at HO_5 HB GG42 HL386_0 HL387_0 HL389_0 HQ50 HR386_0 HR387_0 HR389_0 HX386_0 HX387_0 HX389_0 hf42_0 hx386_0 hx387_0 hx388_0 hx389_0 hx390_0 hx42_0 hHeld⊢
 refine pA_ (i:=0) (N:=some 70) HT_ ?_
 refine pA_ (i:=1) (N:=some 71) HT_ ?_
 refine pA_ (i:=2) (N:=some 72) HT_ ?_
 refine pA_ (i:=4) (N:=some 74) HT_ ?_
 refine pA_ (i:=5) (N:=some 75) HT_ ?_
 refine pA_ (i:=6) (N:=some 76) HT_ ?_
 refine pA_ (i:=7) (N:=some 77) HT_ ?_
 refine pA_ (i:=9) (N:=some 79) HT_ ?_
 refine pA_ (i:=12) (N:=some 82) HT_ ?_
 refine pA_ (i:=13) (N:=some 83) HT_ ?_
 refine pA_ (i:=14) (N:=some 84) HT_ ?_
 refine pA_ (i:=15) (N:=some 85) HT_ ?_
 refine pA_ (i:=17) (N:=some 87) HT_ ?_
 refine pA_ (i:=18) (N:=some 88) HT_ ?_
 refine tA_ (i:=3) (N:=some 73) HT_ HW_ hHeld ?_
 refine tA_ (i:=8) (N:=some 78) HT_ HW_ hHeld ?_
 refine pA_ (i:=10) (N:=some 80) HT_ ?_
 refine tA_ (i:=11) (N:=some 81) HT_ HW_ hHeld ?_
 refine tA_ (i:=16) (N:=some 86) HT_ HW_ hHeld ?_
 refine pA_ (i:=19) (N:=some 89) HT_ ?_
 refine tA_ (i:=20) (N:=some 90) HT_ HW_ hHeld ?_
 refine pA_ (i:=21) (N:=some 91) HT_ ?_
 refine pA_ (i:=22) (N:=some 92) HT_ ?_
 refine pA_ (i:=23) (N:=some 93) HT_ ?_
 refine last_ (i:=24) (N:=none) #[true,true,true,true,true,true,true,true,true,true,true,true,true,true,true,true,true,true,true,true,true,true,true,true,true] rfl rfl (one_of HT_.out (by kernel_rfl)) (by decide) (fun K hK=> ?_)
 refine skip_ (w1:=?_) (by rfl) rfl ?_ ?_
 rotate_left
 {
 go_simp
 rfl
 }
 refine hK.out _ _ ?_
 clear hK K
 refine done_ (done_of HT_.out (by kernel_rfl)) ?_
 try go_wp2
 (try simp only [←hl5_2])
 go_roundg kj18
 case measure=>have:=HK1.out;have:=HK2.out;have:=HJ18.out;omega
 case rel=>exact ⟨(y393),(wrap64 (x7_2 - 1)),r0_,H',⟨by have:=HK1.out;have:=HK2.out;have:=HJ18.out;omega⟩,⟨by (try simp only [hl5_2]);(with_reducible repeat (first|apply Kd.S_alloc|apply Kd.S_drewN|apply Kd.S_drew));exact HQ50.out⟩,⟨by repeat (first|(with_reducible first|exact HB.out|apply below_alloc|apply pw_below_drewN|apply below_drew1|refine below_set ?_ GB42.out)|exact HB.out)⟩⟩
 }
 {
 rw [if_neg c40] at H
 exact absurd H (by simp)
 }
 }
 {
 rw [if_neg c39] at H
 exact absurd H (by simp)
 }
 }
 {
 replace c38:=Bool.eq_false_iff.mpr c38
 subst c38
 replace H:=fn_ H
 have H':=Aside0.mk H
 clear H
 try go_wp2
 have n0_:=Aside0.mk (Kd.S_drew HO_5.out)
 have n1_:=Aside0.mk (below_drew1 HB.out)
 clear HO_5
 clear HB
 have HO_5:=n0_
 have HB:=n1_
 clear n0_ n1_
 have p375:0≤(x6_1:Int):=od_
 have q375:x6_1<(x5_2.length:Int):=od_
 obtain ⟨ad375,A375_0,c375_0,e375,hx375_0,hl375_0,hi375_0⟩:=at_L4 (Kd.S_reads' HO_5.out).2.2 x6_1 p375 q375
 obtain rfl:(⟨go14,0,none⟩:Addr)=ad375:=(by injection e375)
 obtain ⟨ce375,hce375,hMe375,hcc375⟩:=Kd.S_get HO_5.out [] x6_1 p375 (by first|exact q375|exact od_|(have e_:=(Kd.S_reads' HO_5.out).1;omega))
 obtain ⟨ve375_0,rfl,ge375_0⟩:=hMe375
 have hv375_0:=hcc375 0 _ rfl
 rw [Nat.add_zero,show ((Kd.slice 3 (Kd.int .i64))).sz=1 from rfl,Nat.mul_one] at hv375_0
 replace hv375_0:=Option.some.inj (hv375_0.symm.trans hx375_0)
 rw [hv375_0] at ge375_0
 have HL375_0:=Aside0.mk (show Kd.R (Kd.int .i64) 3 _ _ _ _ (rd_L4 x5_2 x6_1) from ge375_0)
 clear hv375_0 ge375_0
 have HX375_0:=Aside0.mk hx375_0
 clear hcc375 hce375
 (first|simp only [add_plain] at hx375_0|simp only [add_at] at hx375_0|simp only [Addr.add,Nat.zero_add] at hx375_0|skip)
 have HR375_0:=Aside0.mk hi375_0
 have HC375_0:=Aside0.mk hl375_0
 clear hi375_0 hl375_0
 replace p375:=eq_true p375
 replace q375:=eq_true q375
 have p376:0≤((ji24):Int):=od_
 have q376:(ji24)<(x5_2.length:Int):=od_
 obtain ⟨ad376,A376_0,c376_0,e376,hx376_0,hl376_0,hi376_0⟩:=at_L4 (Kd.S_reads' HO_5.out).2.2 (ji24) p376 q376
 obtain rfl:(⟨go14,0,none⟩:Addr)=ad376:=(by injection e376)
 obtain ⟨ce376,hce376,hMe376,hcc376⟩:=Kd.S_get HO_5.out [] (ji24) p376 (by first|exact q376|exact od_|(have e_:=(Kd.S_reads' HO_5.out).1;omega))
 obtain ⟨ve376_0,rfl,ge376_0⟩:=hMe376
 have hv376_0:=hcc376 0 _ rfl
 rw [Nat.add_zero,show ((Kd.slice 3 (Kd.int .i64))).sz=1 from rfl,Nat.mul_one] at hv376_0
 replace hv376_0:=Option.some.inj (hv376_0.symm.trans hx376_0)
 rw [hv376_0] at ge376_0
 have HL376_0:=Aside0.mk (show Kd.R (Kd.int .i64) 3 _ _ _ _ (rd_L4 x5_2 (ji24)) from ge376_0)
 clear hv376_0 ge376_0
 have HX376_0:=Aside0.mk hx376_0
 clear hcc376 hce376
 (first|simp only [add_plain] at hx376_0|simp only [add_at] at hx376_0|simp only [Addr.add,Nat.zero_add] at hx376_0|skip)
 have HR376_0:=Aside0.mk hi376_0
 have HC376_0:=Aside0.mk hl376_0
 clear hi376_0 hl376_0
 replace p376:=eq_true p376
 replace q376:=eq_true q376
 have p377:0≤(x7_2:Int):=od_
 have q377:x7_2<((rd_L4 x5_2 (ji24)).length:Int):=od_
 obtain ⟨ad377,e377,hx377_0⟩:=Kd.at_int (c1_ HR376_0) x7_2 p377 q377
 cases e377
 replace p377:=eq_true p377
 replace q377:=eq_true q377
 have p378:0≤(x6_1:Int):=od_
 have q378:x6_1<(x5_2.length:Int):=od_
 obtain ⟨ad378,A378_0,c378_0,e378,hx378_0,hl378_0,hi378_0⟩:=at_L4 (Kd.S_reads' HO_5.out).2.2 x6_1 p378 q378
 obtain rfl:(⟨go14,0,none⟩:Addr)=ad378:=(by injection e378)
 obtain ⟨ce378,hce378,hMe378,hcc378⟩:=Kd.S_get HO_5.out [] x6_1 p378 (by first|exact q378|exact od_|(have e_:=(Kd.S_reads' HO_5.out).1;omega))
 obtain ⟨ve378_0,rfl,ge378_0⟩:=hMe378
 have hv378_0:=hcc378 0 _ rfl
 rw [Nat.add_zero,show ((Kd.slice 3 (Kd.int .i64))).sz=1 from rfl,Nat.mul_one] at hv378_0
 replace hv378_0:=Option.some.inj (hv378_0.symm.trans hx378_0)
 rw [hv378_0] at ge378_0
 have HL378_0:=Aside0.mk (show Kd.R (Kd.int .i64) 3 _ _ _ _ (rd_L4 x5_2 x6_1) from ge378_0)
 clear hv378_0 ge378_0
 have HX378_0:=Aside0.mk hx378_0
 clear hcc378 hce378
 (first|simp only [add_plain] at hx378_0|simp only [add_at] at hx378_0|simp only [Addr.add,Nat.zero_add] at hx378_0|skip)
 have HR378_0:=Aside0.mk hi378_0
 have HC378_0:=Aside0.mk hl378_0
 clear hi378_0 hl378_0
 replace p378:=eq_true p378
 replace q378:=eq_true q378
 have ea_:=Option.some.inj (hx375_0.symm.trans hx378_0)
 injection ea_ with ea_ en_ ec_
 subst ea_
 subst ec_
 clear en_
 have p379:0≤((ji29):Int):=od_
 have q379:(ji29)<((rd_L4 x5_2 x6_1).length:Int):=od_
 obtain ⟨ad379,e379,hx379_0⟩:=Kd.at_int (c1_ HR378_0) (ji29) p379 q379
 cases e379
 replace p379:=eq_true p379
 replace q379:=eq_true q379
 have p34:0≤(x7_2:Int):=od_
 have q34:(x7_2:Int)<(((rd_L4 x5_2 x6_1).length:Int):Int):=od_
 obtain ⟨go34,co34,eo34,gb34,gl34,cl34,HG34⟩:=Kd.R_form HL375_0.out (by omega)
 (first|cases eo34|(injection eo34 with ea_ en_ ec_;(first|subst ea_|(injection ea_ with ea_;subst ea_));subst ec_;clear en_))
 have GB34:=Aside0.mk gb34
 have GG34:=Aside0.mk HG34
 clear gb34 gl34 HG34
 (first|simp only [add_plain] at hx379_0|skip)
 obtain ⟨hx34_0,hf34_0⟩:=Kd.R_celln 0 HL375_0.out (x7_2:Int) p34 q34
 replace p34:=eq_true p34
 replace q34:=eq_true q34
 have hq53:(x6_1:Int)<(x5_2.length:Int):=(by have h_:(x6_1:Int)<((x5_2.length:Int):Int):=od_;first|exact h_|(have e_:=(Kd.S_reads' HO_5.out).1;omega)|simpa only [List.length_set,List.length_set] using h_)
 obtain ⟨oki53,ce53,hcl53,hM53,hcc53,hok53,hbk53⟩:=Kd.S_borrow HO_5.out [] (x6_1:Int) od_ (by first|exact hq53|exact od_)
 obtain ⟨ve53_0,rfl,ge53_0⟩:=hM53
 have hv53:=hcc53 0 _ rfl
 rw [Nat.add_zero,show ((Kd.slice 3 (Kd.int .i64))).sz=1 from rfl,Nat.mul_one] at hv53
 replace hv53:=Option.some.inj (hv53.symm.trans HX375_0.out)
 subst hv53
 clear hcc53 hcl53
 replace ge53_0:=(show Kd.R (Kd.int .i64) 3 _ _ _ _ (rd_L4 x5_2 x6_1) from ge53_0)
 have HP53:=Kd.R_putg ge53_0 (x7_2:Int) ji32
 rw [←Ny380.out] at HP53
 have HS53:=hbk53 HP53.2 (fun k_ e_=>by injection e_ with e_;subst e_;exact ge53_0.1 _ rfl) (x':=y380) (Kd.M_row HP53.1)
 rw [←Ny382.out] at HS53
 have HQ53:=Aside0.mk HS53
 clear HP53 HS53 hbk53 hok53
 refine start_ (n:=24) (S:=fun w'=>w'.cell? ⟨go14,(x6_1).toNat,none⟩=some (.slice (some (⟨go34,0,none⟩:Addr)) (rd_L4 x5_2 x6_1).length c375_0)∧w'.cell? ⟨go14,((ji24)).toNat,none⟩=some (.slice (some ad377) (rd_L4 x5_2 (ji24)).length c376_0)∧w'.cell? (ad377.add (x7_2).toNat)=some (.int .i64 (rd (rd_L4 x5_2 (ji24)) x7_2))∧w'.cell? ⟨go14,(x6_1).toNat,none⟩=some (.slice (some (⟨go34,0,none⟩:Addr)) (rd_L4 x5_2 x6_1).length c375_0)∧w'.cell? ⟨go34,((ji29)).toNat,none⟩=some (.int .i64 (rd (rd_L4 x5_2 x6_1) (ji29)))) (ds:=[23]) #[false,false,false,false,false,false,false,false,false,false,false,false,false,false,false,false,false,false,false,false,false,false,false,false] (by kernel_rfl) rfl rfl ⟨hx375_0,hx376_0,hx377_0,hx378_0,hx379_0⟩ (fun hHeld=> ?_);refine with_tabW bookplateref18_lengths.tab9 bookplateref18_lengths.bits9 (fun HT_ HW_=> ?_)
 generalize wc.drew=w52 at HO_5 HB GG34 HL375_0 HL376_0 HL378_0 HQ53 HR375_0 HR376_0 HR378_0 HX375_0 HX376_0 HX378_0 hf34_0 hx34_0 hx375_0 hx376_0 hx377_0 hx378_0 hx379_0 hHeld⊢
 refine pA_ (i:=0) (N:=some 38) HT_ ?_
 refine pA_ (i:=1) (N:=some 39) HT_ ?_
 refine pA_ (i:=2) (N:=some 40) HT_ ?_
 refine pA_ (i:=4) (N:=some 42) HT_ ?_
 refine pA_ (i:=5) (N:=some 43) HT_ ?_
 refine pA_ (i:=6) (N:=some 44) HT_ ?_
 refine pA_ (i:=7) (N:=some 45) HT_ ?_
 refine pA_ (i:=8) (N:=some 46) HT_ ?_
 refine pA_ (i:=10) (N:=some 48) HT_ ?_
 refine pA_ (i:=13) (N:=some 51) HT_ ?_
 refine pA_ (i:=14) (N:=some 52) HT_ ?_
 refine pA_ (i:=15) (N:=some 53) HT_ ?_
 refine pA_ (i:=17) (N:=some 55) HT_ ?_
 refine pA_ (i:=18) (N:=some 56) HT_ ?_
 refine tA_ (i:=3) (N:=some 41) HT_ HW_ hHeld ?_
 refine tA_ (i:=9) (N:=some 47) HT_ HW_ hHeld ?_
 refine pA_ (i:=11) (N:=some 49) HT_ ?_
 refine tA_ (i:=12) (N:=some 50) HT_ HW_ hHeld ?_
 refine tA_ (i:=16) (N:=some 54) HT_ HW_ hHeld ?_
 refine pA_ (i:=19) (N:=some 57) HT_ ?_
 refine tA_ (i:=20) (N:=some 58) HT_ HW_ hHeld ?_
 refine pA_ (i:=21) (N:=some 59) HT_ ?_
 refine pA_ (i:=22) (N:=some 60) HT_ ?_
 refine last_ (i:=23) (N:=none) #[true,true,true,true,true,true,true,true,true,true,true,true,true,true,true,true,true,true,true,true,true,true,true,true] rfl rfl (one_of HT_.out (by kernel_rfl)) (by decide) (fun K hK=> ?_)
 refine skip_ (w1:=?_) (by rfl) rfl ?_ ?_
 rotate_left
 {
 go_simp
 rfl
 }
 refine hK.out _ _ ?_
 clear hK K
 refine done_ (done_of HT_.out (by kernel_rfl)) ?_
 try go_wp2
 have n0_:Aside0 (Kd.S (Kd.slice 3 (Kd.int .i64)) 72 (w52.setCell ⟨go34,(x7_2:Int).toNat,none⟩ (.int .i64 ji32)) w.heap.size (fun _=>True) (.slice (some ⟨go14,0,none⟩) x5_2.length co14) y382):=⟨by (with_reducible repeat (first|apply Kd.S_alloc|apply Kd.S_drewN|apply Kd.S_drew));exact HQ53.out⟩
 have n1_:Aside0 (Below w.heap.size w (w52.setCell ⟨go34,(x7_2:Int).toNat,none⟩ (.int .i64 ji32))):=⟨by repeat (first|(with_reducible first|exact HB.out|apply below_alloc|apply pw_below_drewN|apply below_drew1|refine below_set ?_ GB34.out)|exact HB.out)⟩
 (try clear HO_5)
 (try clear HB)
 generalize (w52.setCell ⟨go34,(x7_2:Int).toNat,none⟩ (.int .i64 ji32))=w55 at n0_ n1_⊢
 have HO_5:=n0_
 have HB:=n1_
 clear n0_ n1_
 have n0_:=Aside0.mk (Kd.S_drew HO_5.out)
 have n1_:=Aside0.mk (below_drew1 HB.out)
 clear HO_5
 clear HB
 have HO_5:=n0_
 have HB:=n1_
 clear n0_ n1_
 have p383:0≤(x6_1:Int):=od_
 have q383:x6_1<(l0.length:Int):=od_
 obtain ⟨ad383,A383_3,c383_3,e383,hx383_0,hx383_1,hx383_2,hx383_3,hl383_3,hi383_3⟩:=at_T50 HR0.out x6_1 p383 q383
 have hw383_3:=hx383_3
 have hw383_2:=hx383_2
 have hw383_1:=hx383_1
 have hw383_0:=hx383_0
 cases e383
 replace hx383_0:=cel_ HB hx383_0
 replace hx383_1:=cel_ HB hx383_1
 replace hx383_2:=cel_ HB hx383_2
 replace hx383_3:=cel_ HB hx383_3
 have HR383_3:=Aside0.mk hi383_3
 have HC383_3:=Aside0.mk hl383_3
 clear hi383_3 hl383_3
 replace p383:=eq_true p383
 replace q383:=eq_true q383
 have p384:0≤(x7_2:Int):=od_
 have q384:x7_2<(l1.length:Int):=od_
 obtain ⟨ad384,A384_3,c384_3,e384,hx384_0,hx384_1,hx384_2,hx384_3,hl384_3,hi384_3⟩:=at_T50 HR1.out x7_2 p384 q384
 have hw384_3:=hx384_3
 have hw384_2:=hx384_2
 have hw384_1:=hx384_1
 have hw384_0:=hx384_0
 cases e384
 replace hx384_0:=cel_ HB hx384_0
 replace hx384_1:=cel_ HB hx384_1
 replace hx384_2:=cel_ HB hx384_2
 replace hx384_3:=cel_ HB hx384_3
 have HR384_3:=Aside0.mk hi384_3
 have HC384_3:=Aside0.mk hl384_3
 clear hi384_3 hl384_3
 replace p384:=eq_true p384
 replace q384:=eq_true q384
 refine start_ (n:=9) (S:=fun w'=>w'.cell? (ad383.add ((x6_1).toNat * 4))=some (.string ((rd_T50 l0 x6_1).f0))∧w'.cell? ⟨(ad383.add ((x6_1).toNat * 4)).block,(ad383.add ((x6_1).toNat * 4)).off+1,none⟩=some (.int .u8 ((rd_T50 l0 x6_1).f1.f0))∧w'.cell? ⟨(ad383.add ((x6_1).toNat * 4)).block,(ad383.add ((x6_1).toNat * 4)).off+2,none⟩=some (.int .u8 ((rd_T50 l0 x6_1).f1.f1))∧w'.cell? ⟨(ad383.add ((x6_1).toNat * 4)).block,(ad383.add ((x6_1).toNat * 4)).off+3,none⟩=some (.slice A383_3 ((rd_T50 l0 x6_1).f2).length c383_3)∧w'.cell? (ad384.add ((x7_2).toNat * 4))=some (.string ((rd_T50 l1 x7_2).f0))∧w'.cell? ⟨(ad384.add ((x7_2).toNat * 4)).block,(ad384.add ((x7_2).toNat * 4)).off+1,none⟩=some (.int .u8 ((rd_T50 l1 x7_2).f1.f0))∧w'.cell? ⟨(ad384.add ((x7_2).toNat * 4)).block,(ad384.add ((x7_2).toNat * 4)).off+2,none⟩=some (.int .u8 ((rd_T50 l1 x7_2).f1.f1))∧w'.cell? ⟨(ad384.add ((x7_2).toNat * 4)).block,(ad384.add ((x7_2).toNat * 4)).off+3,none⟩=some (.slice A384_3 ((rd_T50 l1 x7_2).f2).length c384_3)) (ds:=[]) #[false,false,false,false,false,false,false,false,false] (by kernel_rfl) rfl rfl ⟨(cel_ HB hw383_0),(cel_ HB hw383_1),(cel_ HB hw383_2),(cel_ HB hw383_3),(cel_ HB hw384_0),(cel_ HB hw384_1),(cel_ HB hw384_2),(cel_ HB hw384_3)⟩ (fun hHeld=> ?_);refine with_tabW bookplateref18_lengths.tab10 bookplateref18_lengths.bits10 (fun HT_ HW_=> ?_)
 generalize w55.drew=w56 at HO_5 HB HQ53 HR383_3 HR384_3 hx383_0 hx383_1 hx383_2 hx383_3 hx384_0 hx384_1 hx384_2 hx384_3 hHeld⊢
 refine pA_ (i:=0) (N:=some 61) HT_ ?_
 refine pA_ (i:=1) (N:=some 62) HT_ ?_
 refine pA_ (i:=2) (N:=some 63) HT_ ?_
 refine pA_ (i:=4) (N:=some 65) HT_ ?_
 refine pA_ (i:=5) (N:=some 66) HT_ ?_
 refine pA_ (i:=6) (N:=some 67) HT_ ?_
 refine tA_ (i:=3) (N:=some 64) HT_ HW_ hHeld ?_
 refine tA_ (i:=7) (N:=some 68) HT_ HW_ hHeld ?_
 refine one_ (i:=8) (N:=some 69) #[true,true,true,true,true,true,true,true,true] rfl rfl (one_of HT_.out (by kernel_rfl)) (by decide) (fun K hK=> ?_)
 refine goes_ Tryd.func40 (by kernel_rfl) rfl #[.agg #[.string ((rd_T50 l0 x6_1).f0),.int .u8 ((rd_T50 l0 x6_1).f1.f0),.int .u8 ((rd_T50 l0 x6_1).f1.f1),.slice A383_3 ((rd_T50 l0 x6_1).f2).length c383_3],.agg #[.string ((rd_T50 l1 x7_2).f0),.int .u8 ((rd_T50 l1 x7_2).f1.f0),.int .u8 ((rd_T50 l1 x7_2).f1.f1),.slice A384_3 ((rd_T50 l1 x7_2).f2).length c384_3]] (by rfl) rfl rfl ml_ ?_
 with_reducible refine (bookplateref12_SameField.calls kj18 ((rd_T50 l0 x6_1).f0) ((rd_T50 l0 x6_1).f1.f0) ((rd_T50 l0 x6_1).f1.f1) _ _ ((rd_T50 l0 x6_1).f2) ((rd_T50 l1 x7_2).f0) ((rd_T50 l1 x7_2).f1.f0) ((rd_T50 l1 x7_2).f1.f1) _ _ ((rd_T50 l1 x7_2).f2) false _ ?side1 ?side2 ?side3 ?side4 A37.out).mono ?_
 (case side1=>exact c0_)
 (case side2=>exact HC383_3.out)
 (case side3=>exact c0_)
 (case side4=>exact HC384_3.out)
 rintro e w57 ⟨rfl,hb⟩
 refine ⟨_,rfl,?_⟩
 have n0_:=Aside0.mk (Kd.S_below (xS_ HO_5) hb)
 have n1_:=Aside0.mk (below_step b0_ hb)
 clear HO_5
 clear HB
 have HO_5:=n0_
 have HB:=n1_
 clear n0_ n1_
 (try clear hb)
 (try clear hk)
 refine hK.out _ _ ⟨(cel_ HB hw383_0),(cel_ HB hw383_1),(cel_ HB hw383_2),(cel_ HB hw383_3),(cel_ HB hw384_0),(cel_ HB hw384_1),(cel_ HB hw384_2),(cel_ HB hw384_3)⟩ (fun hHeld=> ?_)
 clear hK K
 refine norm_ (a':=?_) ?_ ?_
 rotate_left
 {
 show Act.put _ (some 69) _=_
 simp only [Act.put,List.setIfInBounds_toArray,List.set_cons_zero,List.set_cons_succ,i64_w,i32_w]
 rfl
 }
 refine done_ (done_of HT_.out (by kernel_rfl)) ?_
 try go_wp2
 (try simp only [←hl5_2])
 go_roundg kj18
 case measure=>have:=HK1.out;have:=HK2.out;have:=HJ18.out;omega
 case rel=>exact ⟨(y382),(wrap64 (x7_2 - 1)),r0_,H',⟨by have:=HK1.out;have:=HK2.out;have:=HJ18.out;omega⟩,⟨by (try simp only [hl5_2]);(with_reducible repeat (first|apply Kd.S_alloc|apply Kd.S_drewN|apply Kd.S_drew));exact HO_5.out⟩,⟨b0_⟩⟩
 }
 }
 {
 rw [if_neg c36] at H
 exact absurd H (by simp)
 }
 }
 {
 rw [if_neg c35] at H
 exact absurd H (by simp)
 }
 }
 {
 rw [if_neg c33] at H
 exact absurd H (by simp)
 }
 }
 {
 rw [if_neg c31] at H
 exact absurd H (by simp)
 }
 }
 {
 rw [if_neg c30] at H
 exact absurd H (by simp)
 }
 }
 {
 rw [if_neg c28] at H
 exact absurd H (by simp)
 }
 }
 {
 rw [if_neg c27] at H
 exact absurd H (by simp)
 }
 }
 {
 rw [if_neg c26] at H
 exact absurd H (by simp)
 }
 }
 {
 rw [if_neg c25] at H
 exact absurd H (by simp)
 }
 }
 {
 rw [if_neg c23] at H
 exact absurd H (by simp)
 }
 }
 {
 rw [if_neg c22] at H
 exact absurd H (by simp)
 }
 }
 {
 replace c21:=Bool.eq_false_iff.mpr c21
 subst c21
 replace H:=fn_ H
 have H':=Aside0.mk H
 clear H
 go_wp2
 (try simp only [←hl5_2])
 go_roundg kj18
 case measure=>have:=HK1.out;have:=HK2.out;have:=HJ18.out;omega
 case rel=>exact ⟨(x5_2),(wrap64 (x6_1 - 1)),r0_,H',⟨by have:=HK1.out;have:=HK2.out;have:=HJ18.out;omega⟩,⟨by (try simp only [hl5_2]);(with_reducible repeat (first|apply Kd.S_alloc|apply Kd.S_drewN|apply Kd.S_drew));exact HO_5.out⟩,⟨b0_⟩⟩
 }
  )
  )
  )
  )
 }
 {
 rw [if_neg c13] at H
 exact absurd H (by simp)
 }
 }
 {
 rw [if_neg c12] at H
 exact absurd H (by simp)
 }
 }
 {
 rw [if_neg c11] at H
 exact absurd H (by simp)
 }
 }
 {
 rw [if_neg c10] at H
 exact absurd H (by simp)
 }
 }
 {
 rw [if_neg c8] at H
 have c8b0:decide (0≤x6_1)=false:=decide_eq_false c8
 clear c8
 obtain rfl:=Option.some.inj H
 go_wp2
 go_ret
 exact ⟨_,by first|rfl|(simp [errW_none,errW_some]<;>rfl)|(simp only [←hji3];first|rfl|(simp [errW_none,errW_some]<;>rfl))|(simp [*,errW_none,errW_some]<;>rfl),by (with_reducible repeat (first|apply Kd.S_alloc|apply Kd.S_drewN|apply Kd.S_drew));exact HO_5.out,b0_⟩
 }
  )
  )
 }
 {
 rw [if_neg c5] at H
 exact absurd H (by simp)
 }
 }
 {
 rw [if_neg c4] at H
 exact absurd H (by simp)
 }
end
end Go.Proofs.YtdlolaognnbhpaaDoor.Pr
