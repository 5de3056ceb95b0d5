/- A part of the proof of laws of this seat: PatchBack, PatchDiff, PatchLeast, PatchMetric. Conditions: none of our own. -/
import Derived.Test.YtdlolaognnbhpaaDoorK4
namespace Go.Proofs.YtdlolaognnbhpaaDoor.Pr
open Go.RowKit Go.Proofs.YtdlolaognnbhpaaDoorW.PrintWords Go.Proofs.YtdlolaognnbhpaaDoorW.PrintLast Go.Proofs.YtdlolaognnbhpaaDoorW.PrintMore
noncomputable section
attribute [local go_sem] max2_int min2_int max_two min_two max_three min_three max_four min_four
set_option linter.unusedVariables false
set_option linter.unusedSimpArgs false
mutual
def patch_lengths.l0:Nat→List (S50)→List (S50)→List (List Int)→Int→Option ((List (List Int)))
 |0,_,_,_,_=>none
 |k+1,x0,x1,x5,x6=>if x6≥0 then (if 0≤(wrap64 ((x1.length:Int)+1)) then (if (wrap64 ((x1.length:Int)+1):Int).toNat≤35184372088832 then (if 0≤x6 then (if x6<(x5.length:Int) then (patch_lengths.l1 k x0 x1 (x5.set (x6:Int).toNat (List.replicate (wrap64 ((x1.length:Int)+1):Int).toNat 0)) x6 (wrap64 ((x1.length:Int) - 1))) else (none)) else (none)) else (none)) else (none)) else (some x5)
def patch_lengths.l1:Nat→List (S50)→List (S50)→List (List Int)→Int→Int→Option ((List (List Int)))
 |0,_,_,_,_,_=>none
 |k+1,x0,x1,x5,x6,x7=>if x7≥0 then (patch_lengths.j2 k x0 x1 x5 x6 x7 (decide (x6<(x0.length:Int)))) else (patch_lengths.j2 k x0 x1 x5 x6 x7 false)
def patch_lengths.j2:Nat→List (S50)→List (S50)→List (List Int)→Int→Int→Bool→Option ((List (List Int)))
 |0,_,_,_,_,_,_=>none
 |k+1,x0,x1,x5,x6,x7,x35=>if x35=true then (if 0≤x6 then (if x6<(x0.length:Int) then (if 0≤x7 then (if x7<(x1.length:Int) then ((patch_same.f k ((rd_T50 x0 x6).f0) ((rd_T50 x0 x6).f1.f0) ((rd_T50 x0 x6).f1.f1) ((rd_T50 x0 x6).f2) ((rd_T50 x1 x7).f0) ((rd_T50 x1 x7).f1.f0) ((rd_T50 x1 x7).f1.f1) ((rd_T50 x1 x7).f2)).bind fun t115=>(if t115=true then (if x6<(x5.length:Int) then (if 0≤(wrap64 (x6+1)) then (if (wrap64 (x6+1))<(x5.length:Int) then (if 0≤(wrap64 (x7+1)) then (if (wrap64 (x7+1))<((rd_L4 x5 (wrap64 (x6+1))).length:Int) then (if x7<((rd_L4 x5 x6).length:Int) then (patch_lengths.l1 k x0 x1 (x5.set (x6:Int).toNat ((rd_L4 x5 x6).set (x7:Int).toNat (wrap64 ((rd (rd_L4 x5 (wrap64 (x6+1))) (wrap64 (x7+1)))+1)))) x6 (wrap64 (x7 - 1))) else (none)) else (none)) else (none)) else (none)) else (none)) else (none)) else (if x6<(x5.length:Int) then (if 0≤(wrap64 (x6+1)) then (if (wrap64 (x6+1))<(x5.length:Int) then (if x7<((rd_L4 x5 (wrap64 (x6+1))).length:Int) then (if 0≤(wrap64 (x7+1)) then (if (wrap64 (x7+1))<((rd_L4 x5 x6).length:Int) then (if x7<((rd_L4 x5 x6).length:Int) then (patch_lengths.l1 k x0 x1 (x5.set (x6:Int).toNat ((rd_L4 x5 x6).set (x7:Int).toNat (mx (rd (rd_L4 x5 (wrap64 (x6+1))) x7) (rd (rd_L4 x5 x6) (wrap64 (x7+1)))))) x6 (wrap64 (x7 - 1))) else (none)) else (none)) else (none)) else (none)) else (none)) else (none)) else (none)))) else (none)) else (none)) else (none)) else (none)) else (patch_lengths.l0 k x0 x1 x5 (wrap64 (x6 - 1)))
end
def patch_lengths.f (k:Nat) (l0:List (S50)) (l1:List (S50)):Option ((List (List Int))):=if 0≤(wrap64 ((l0.length:Int)+1)) then (if (wrap64 ((l0.length:Int)+1):Int).toNat≤11728124029610 then (patch_lengths.l0 k l0 l1 (List.replicate (wrap64 ((l0.length:Int)+1):Int).toNat []) (l0.length:Int)) else (none)) else (none)
def patch_lengths.T9:Bool×List (List Nat×List Nat):=(true,[([],[]),([],[]),([0,1],[0,1]),([2],[2]),([],[]),([],[]),([4,5],[4,5]),([6],[6]),([3,7],[3,7])])
def patch_lengths.B9:List Nat:=[0,0,3,7,0,0,48,112,255]
theorem patch_lengths.tab9:rtab .any (opsOf Tryd.f37 9)=patch_lengths.T9:=by kernel_rfl
theorem patch_lengths.bits9:waitsOk patch_lengths.T9.2 patch_lengths.B9=true:=by kernel_rfl
def patch_lengths.T10:Bool×List (List Nat×List Nat):=(true,[([],[]),([],[]),([0,1],[0,1]),([2],[2]),([],[]),([],[]),([],[]),([6],[6]),([5,7],[5,7]),([8],[8]),([],[]),([10],[10]),([9,11],[9,11]),([12],[12]),([13],[13]),([3,4,0,1,2,3,4,5,6,7,8,9,10,11,12,13,14],[3,4]),([15,14,0,1,2,3,4,5,6,7,8,9,10,11,12,13,14],[14,15])])
def patch_lengths.B10:List Nat:=[0,0,3,7,0,0,0,64,224,480,0,1024,4064,8160,16352,32767,65535]
theorem patch_lengths.tab10:rtab .any (opsOf Tryd.f37 10)=patch_lengths.T10:=by kernel_rfl
theorem patch_lengths.bits10:waitsOk patch_lengths.T10.2 patch_lengths.B10=true:=by kernel_rfl
def patch_lengths.T11:Bool×List (List Nat×List Nat):=(true,[([],[]),([],[]),([0,1],[0,1]),([2],[2]),([],[]),([],[]),([],[]),([6],[6]),([5,7],[5,7]),([8],[8]),([],[]),([9,10],[9,10]),([11],[11]),([],[]),([],[]),([13,14],[13,14]),([15],[15]),([],[]),([17],[17]),([16,18],[16,18]),([19],[19]),([12,20],[12,20]),([3,4,0,1,2,3,4,5,6,7,8,9,10,11,12,13,14,15,16,17,18,19,20,21],[3,4]),([22,21,0,1,2,3,4,5,6,7,8,9,10,11,12,13,14,15,16,17,18,19,20,21],[21,22])])
def patch_lengths.B11:List Nat:=[0,0,3,7,0,0,0,64,224,480,0,2016,4064,0,0,24576,57344,0,131072,516096,1040384,2097120,4194303,8388607]
theorem patch_lengths.tab11:rtab .any (opsOf Tryd.f37 11)=patch_lengths.T11:=by kernel_rfl
theorem patch_lengths.bits11:waitsOk patch_lengths.T11.2 patch_lengths.B11=true:=by kernel_rfl
set_option maxHeartbeats 8000000 in
set_option maxRecDepth 100000 in
theorem patch_lengths.calls (k:Nat) (A0:Option Addr) (c0:Nat) (l0:List (S50)) (A1:Option Addr) (c1:Nat) (l1:List (S50)) (r:List (List Int)) (w:World) (hr0:Kd.C k50 w A0 l0.length l0) (hc0:l0.length≤c0) (hr1:Kd.C k50 w A1 l1.length l1) (hc1:l1.length≤c1) (h:patch_lengths.f k l0 l1=some r):
 Calls Tryd.prog 37 #[.slice A0 l0.length c0,.slice A1 l1.length c1] w fun e w'=>∃ v0_:Value,e= .returned (v0_)∧Kd.S (Kd.slice 3 (Kd.int .i64)) 72 w' w.heap.size (fun _=>True) v0_ r∧Below w.heap.size w w':=by
 have hu50:=Tryd.underlying50
 have HR0:=Aside0.mk hr0
 have HC0:=Aside0.mk hc0
 clear hr0 hc0
 have HR1:=Aside0.mk hr1
 have HC1:=Aside0.mk hc1
 clear hr1 hc1
 have HB:=Aside0.mk (Below.refl w.heap.size w)
 have H:(if 0≤(wrap64 ((l0.length:Int)+1)) then (if (wrap64 ((l0.length:Int)+1):Int).toNat≤11728124029610 then (patch_lengths.l0 k l0 l1 (List.replicate (wrap64 ((l0.length:Int)+1):Int).toNat []) (l0.length:Int)) else (none)) else (none))=some r:=h
 clear h
 obtain ⟨ji3,hji3⟩:∃ j_:Int,(wrap64 ((l0.length:Int)+1))=j_:=⟨_,rfl⟩
 replace H:(if 0≤(ji3) then (if (ji3:Int).toNat≤11728124029610 then (patch_lengths.l0 k l0 l1 (List.replicate (ji3:Int).toNat []) (l0.length:Int)) else (none)) else (none))=some r:=by first|(rw [hji3] at H;exact H)|(simp only [hji3] at H⊢;exact H)
 have hji3w:(IntKind.i64.wrap ((l0.length:Int)+1))=ji3:=(i64_w _).trans hji3
 by_cases c4:0≤(ji3)
 {
 rw [if_pos c4] at H
 have c4b0:=eq_true c4
 have c4b1:decide (0≤(ji3))=true:=decide_eq_true c4
 clear c4
 by_cases c5:(ji3:Int).toNat≤11728124029610
 {
 rw [if_pos c5] at H
 have c5b0:=eq_true c5
 have c5b1:decide ((ji3:Int).toNat≤11728124029610)=true:=decide_eq_true c5
 clear c5
 obtain ⟨y106,hy106⟩:∃ y_:List (List Int),y_=(List.replicate (ji3:Int).toNat []):=⟨_,rfl⟩
 replace H:(patch_lengths.l0 k l0 l1 y106 (l0.length:Int))=some r:=by first|(rw [hy106];with_reducible exact H)|(have H2_:=(Option.bind_some _ _).symm.trans H;rw [hy106];with_reducible exact H2_)|(have H2_:=(Option.bind_some _ _).symm.trans H;with_reducible exact H2_)|with_reducible exact H|(rw [hy106];exact H)|exact H
 have Ny106:=Aside0.mk hy106
 clear hy106
 have H':=Aside0.mk H
 clear H
 go_enter Tryd.func37,Tryd.ntmps37
 go_wp2_with (first|((with_reducible refine gate_dst (N:=11) rfl ?_);(try (refine gate_guard (by rfl) ?_;dsimp only));refine Kd.S_make (Kd.slice 3 (Kd.int .i64)) _ 72 rfl (N:=11) rfl 69 _ _ rfl ji3 rfl rfl Tryd.underlying69 (.slice none 0 0) 24 info72 rfl (by decide) (by omega) [] (ok:=fun _=>True) (okp:=fun _=>True) ⟨_,rfl,Kd.R_nil _ _ _ _ _⟩ (fun _ hk=>hk) trivial od_ (Nat.le_trans (Nat.mul_le_mul_right _ (od_:ji3.toNat≤11728124029610)) (by omega)) (Below.refl _ _) (Nat.le_refl _) ?_;intro v107 w6 ho7 hb hg_ hnew_;clear hg_ hnew_;(first|rw [←Ny106.out] at ho7|(simp only [Int.reduceToNat] at ho7;rw [←Ny106.out] at ho7));have n_:=as2_ (Kd.S_lower ho7 (below_size b0_)) (below_step b0_ hb);clear HB;obtain ⟨HO108,HB⟩:=n_;clear hb ho7))
 go_loopg [6] k (fun kq v6 w'=>∃ (x5_1:List (List Int)) (x6_1:Int),v6= .int .i64 x6_1∧Aside0 (patch_lengths.l0 kq l0 l1 x5_1 x6_1=some r)∧Aside0 (kq≤k)∧Aside0 (Kd.S (Kd.slice 3 (Kd.int .i64)) 72 w' w.heap.size (fun _=>True) v107 x5_1)∧Aside0 (Below w.heap.size w w'))
 case atStart=>exact ⟨(y106),((l0.length:Int)),r0_,H',⟨Nat.le_refl _⟩,⟨by (with_reducible repeat (first|apply Kd.S_alloc|apply Kd.S_drewN|apply Kd.S_drew));exact HO108.out⟩,⟨b0_⟩⟩
 case round=>
  (
 clear H'
 try clear c1
 try clear p2
 try clear c3
 try clear c4
 try clear c4b0
 try clear c4b1
 try clear c5
 try clear c5b0
 try clear c5b1
 try clear p6
 obtain ⟨x5_1,x6_1,rfl,HA,HK1,HO_5,HB⟩:=hrel
 cases gk with
 |zero=>exact absurd HA.out (by simp [patch_lengths.l0])
 |succ k1=>
  (
 have H:=HA.out
 clear HA
 simp only [patch_lengths.l0] at H
 by_cases c8:x6_1≥0
 {
 rw [if_pos c8] at H
 have c8b0:decide (0≤x6_1)=true:=decide_eq_true c8
 clear c8
 obtain ⟨ji9,hji9⟩:∃ j_:Int,(wrap64 ((l1.length:Int)+1))=j_:=⟨_,rfl⟩
 replace H:(if 0≤(ji9) then (if (ji9:Int).toNat≤35184372088832 then (if 0≤x6_1 then (if x6_1<(x5_1.length:Int) then (patch_lengths.l1 k1 l0 l1 (x5_1.set (x6_1:Int).toNat (List.replicate (ji9:Int).toNat 0)) x6_1 (wrap64 ((l1.length:Int) - 1))) else (none)) else (none)) else (none)) else (none))=some r:=by first|(rw [hji9] at H;exact H)|(simp only [hji9] at H⊢;exact H)
 have hji9w:(IntKind.i64.wrap ((l1.length:Int)+1))=ji9:=(i64_w _).trans hji9
 by_cases c10:0≤(ji9)
 {
 rw [if_pos c10] at H
 have c10b0:=eq_true c10
 have c10b1:decide (0≤(ji9))=true:=decide_eq_true c10
 clear c10
 by_cases c11:(ji9:Int).toNat≤35184372088832
 {
 rw [if_pos c11] at H
 have c11b0:=eq_true c11
 have c11b1:decide ((ji9:Int).toNat≤35184372088832)=true:=decide_eq_true c11
 clear c11
 obtain ⟨y109,hy109⟩:∃ y_:List Int,y_=(List.replicate (ji9:Int).toNat 0):=⟨_,rfl⟩
 replace H:(if 0≤x6_1 then (if x6_1<(x5_1.length:Int) then (patch_lengths.l1 k1 l0 l1 (x5_1.set (x6_1:Int).toNat y109) x6_1 (wrap64 ((l1.length:Int) - 1))) else (none)) else (none))=some r:=by first|(rw [hy109];with_reducible exact H)|(have H2_:=(Option.bind_some _ _).symm.trans H;rw [hy109];with_reducible exact H2_)|(have H2_:=(Option.bind_some _ _).symm.trans H;with_reducible exact H2_)|with_reducible exact H|(rw [hy109];exact H)|exact H
 have Ny109:=Aside0.mk hy109
 clear hy109
 by_cases c12:0≤x6_1
 {
 rw [if_pos c12] at H
 have c12b0:decide (0≤x6_1)=true:=decide_eq_true c12
 clear c12
 by_cases c13:x6_1<(x5_1.length:Int)
 {
 rw [if_pos c13] at H
 have c13b0:decide (x6_1<(x5_1.length:Int))=true:=decide_eq_true c13
 clear c13
 obtain ⟨y112,hy112⟩:∃ y_:List (List Int),y_=(x5_1.set (x6_1:Int).toNat y109):=⟨_,rfl⟩
 replace H:(patch_lengths.l1 k1 l0 l1 y112 x6_1 (wrap64 ((l1.length:Int) - 1)))=some r:=by first|(rw [hy112];with_reducible exact H)|(have H2_:=(Option.bind_some _ _).symm.trans H;rw [hy112];with_reducible exact H2_)|(have H2_:=(Option.bind_some _ _).symm.trans H;with_reducible exact H2_)|with_reducible exact H|(rw [hy112];exact H)|exact H
 have Ny112:=Aside0.mk hy112
 clear hy112
 have H':=Aside0.mk H
 clear H
 go_wp2_with (first|((with_reducible refine gate_dst (N:=23) rfl ?_);(try (refine gate_guard (by rfl) ?_;dsimp only));refine Kd.R_make (Kd.int .i64) _ 3 rfl (N:=23) rfl 72 _ _ rfl ji9 rfl rfl Tryd.underlying72 (.int .i64 0) 8 info3 rfl (by decide) (by omega) 0 (ok:=fun _=>True) (okp:=fun _=>True) rfl (fun _ hk=>hk) trivial od_ (Nat.le_trans (Nat.mul_le_mul_right _ (od_:ji9.toNat≤35184372088832)) (by omega)) (Below.refl _ _) (Nat.le_refl _) ?_;intro v110 w15 ho16 hb hg_ hnew_;clear hg_ hnew_;(first|rw [←Ny109.out] at ho16|(simp only [Int.reduceToNat] at ho16;rw [←Ny109.out] at ho16));have n_:=as3_ (Kd.S_elder' (xS_ HO_5) (Kd.R_base ho16) hb) (Kd.R_lower ho16 (below_size b0_)) (below_step b0_ hb);clear HO_5 HB;obtain ⟨HO_5,HO111,HB⟩:=n_;clear hb ho16;have p14:0≤(x6_1:Int):=od_;have q14:(x6_1:Int)<((x5_1.length:Int):Int):=od_;obtain ⟨go14,co14,eo14,gb14,gl14,cl14,HG14⟩:=Kd.S_form HO_5.out (by omega);(first|cases eo14|(injection eo14 with ea_ en_ ec_;(first|subst ea_|(injection ea_ with ea_;subst ea_));subst ec_;clear en_));have GB14:=Aside0.mk gb14;have GG14:=Aside0.mk HG14;clear gb14 gl14 HG14;obtain ⟨_,ce14,hcl14,hM14,hcc14,hfr14,_,_⟩:=Kd.S_elem HO_5.out [] (x6_1:Int) p14 q14;obtain ⟨ve14_0,rfl,ge14_0⟩:=hM14;have hx14_0:=hcc14 0 _ rfl;have hf14_0:=hfr14 0;(try simp only [show ((Kd.slice 3 (Kd.int .i64))).sz=1 from rfl,Nat.mul_one,Nat.add_zero] at hx14_0);(try simp only [show ((Kd.slice 3 (Kd.int .i64))).sz=1 from rfl,Nat.mul_one,Nat.add_zero] at hf14_0);(try clear hM14);clear hcl14 hcc14 hfr14;replace p14:=eq_true p14;replace q14:=eq_true q14;have n_:=Aside0.mk (Kd.S_mono (ok':=(fun k_=>some k_≠(v110:Value).ownBlock)) HO_5.out (fun k_ hk=>hk.2));clear HO_5;have HO_5:=n_;clear n_;have HX17:=Aside0.mk (show Kd.S (Kd.slice 3 (Kd.int .i64)) 72 w15 w.heap.size (fun k_=>((fun _=>True)) k_∧ ¬ ((fun k_=>some k_=(v110:Value).ownBlock)) k_) (.slice (some ⟨go14,0,none⟩) x5_1.length co14) x5_1 from (by (with_reducible repeat (first|apply Kd.S_alloc|apply Kd.S_drewN|apply Kd.S_drew));exact Kd.S_mono HO_5.out (fun k_ hk=>⟨trivial,fun e_=>hk e_⟩)));obtain ⟨oki17,ce17,hcl17,hM17,hcc17,hfr17,hoki17,hH17⟩:=Kd.S_elem HX17.out [] (x6_1:Int) od_ (by have h_:(x6_1:Int)<((x5_1.length:Int):Int):=od_;first|exact h_|(have e_:=(Kd.S_reads' HO_5.out).1;omega)|simpa using h_);obtain ⟨ve17_0,rfl,ge17_0⟩:=hM17;have HP17:=Kd.S_seg hH17 od_ (by have h_:(x6_1:Int)<((x5_1.length:Int):Int):=od_;first|exact h_|(have e_:=(Kd.S_reads' HO_5.out).1;omega)|simpa using h_) (seg:=[v110]) (j:=0) (show 1≤1 from by decide) (x':=y109) (Kd.M_row (Kd.R_mono (Kd.R_tight rfl (Kd.R_mono (ok':=fun k_=>((fun _=>True)) k_∧k_≠go14) (Kd.R_apart' (HO111.out) (Kd.S_typed HO_5.out) (by decide)) (fun k_ hk=>⟨trivial,fun e_=>(hk.2) (by rw [e_];rfl)⟩))) (fun _ h_=>Or.inr (h_)))) (fun _ hk=>hk) (fun k_ hk_=>((Kd.R_mono (ok':=fun k_=>((fun _=>True)) k_∧k_≠go14) (Kd.R_apart' (HO111.out) (Kd.S_typed HO_5.out) (by decide)) (fun k_ hk=>⟨trivial,fun e_=>(hk.2) (by rw [e_];rfl)⟩))).1 k_ hk_.symm);have hx17_0:=hcc17 0 _ rfl;(try simp only [show ((Kd.slice 3 (Kd.int .i64))).sz=1 from rfl,Nat.mul_one,Nat.add_zero] at hx17_0);have hf17_0:=hfr17 0;(try simp only [show ((Kd.slice 3 (Kd.int .i64))).sz=1 from rfl,Nat.mul_one,Nat.add_zero] at hf17_0);(try clear hM17);clear hcl17 hcc17 hfr17 hoki17 hH17;(try simp only [show ((Kd.slice 3 (Kd.int .i64))).sz=1 from rfl,Nat.mul_one,Nat.add_zero] at HP17))|((with_reducible refine gate_store (t:=72) (p:=24) rfl ?_);refine store_event (t:=72) (p:=24) (v:=?vo_w18) (w1:=(w15.setCell ⟨go14,(x6_1:Int).toNat,none⟩ (v110))) ?hg ?ho ?hn ?hr ?_;(case ho=>rfl);(case hg=>rfl);(case hn=>rfl);(case hr=>first|(go_simp;done)|(go_simp;rfl)|(obtain ⟨A_,n_,c_,hv_⟩:=Aid.R_slice HO111.out;rw [hv_];first|(go_simp;done)|(go_simp;rfl)));intro w18 hw;have hg:w15.grownBy w18 (some go14):=(by rw [hw];exact HP17.2);have hp_:Kd.S (Kd.slice 3 (Kd.int .i64)) 72 w18 w.heap.size (fun _=>True) (.slice (some ⟨go14,0,none⟩) x5_1.length co14) y112:=(by rw [hw,Ny112.out];exact HP17.1);clear HP17;have n_:=as2_ (hp_) ((by rw [hw];exact below_set (HB.out) GB14.out:Below w.heap.size w w18));clear HO_5 HB HO111;obtain ⟨HO_5,HB⟩:=n_;clear hg hw hp_))
 go_loopg [7] k1 (fun kq v7 w'=>∃ (x5_2:List (List Int)) (x7_2:Int),v7= .int .i64 x7_2∧Aside0 (patch_lengths.l1 kq l0 l1 x5_2 x6_1 x7_2=some r)∧Aside0 (kq≤k1)∧Aside0 (Kd.S (Kd.slice 3 (Kd.int .i64)) 72 w' w.heap.size (fun _=>True) (.slice (some ⟨go14,0,none⟩) x5_1.length co14) x5_2)∧Aside0 (Below w.heap.size w w'))
 case atStart=>exact ⟨(y112),(wrap64 ((l1.length:Int) - 1)),r0_,H',⟨Nat.le_refl _⟩,⟨by (with_reducible repeat (first|apply Kd.S_alloc|apply Kd.S_drewN|apply Kd.S_drew));exact HO_5.out⟩,⟨b0_⟩⟩
 case round=>
  (
 clear H'
 try clear c1
 try clear p1
 try clear q1
 try clear hx1
 try clear p2
 try clear c3
 try clear c4
 try clear c4b0
 try clear c4b1
 try clear c5
 try clear c5b0
 try clear c5b1
 try clear p6
 try clear c8
 try clear c8b0
 try clear c10
 try clear c10b0
 try clear c10b1
 try clear c11
 try clear c11b0
 try clear c11b1
 try clear c12
 try clear c12b0
 try clear c13
 try clear c13b0
 try clear c14
 try clear p14
 try clear q14
 try clear hx14
 try clear hf14
 try clear c17
 try clear hx17
 try clear hf17
 try clear hx14_0
 try clear hx17_0
 try clear p14
 try clear p2
 try clear p6
 try clear q14
 obtain ⟨x5_2,x7_2,rfl,HA,HK2,HO_5,HB⟩:=hrel
 have hl5_2:=(Kd.S_reads' HO_5.out).1
 rw [hl5_2] at HO_5
 (try simp only [hl5_2])
 cases gk with
 |zero=>exact absurd HA.out (by simp [patch_lengths.l1])
 |succ k2=>
  (
 have H:=HA.out
 clear HA
 simp only [patch_lengths.l1] at H
 have HC19:=Aside0.mk H
 clear H
 go_upto_region 7 with (fail)
 go_cut [35] (fun v35 wc=>∃ (kq:Nat) (x35_18:Bool),v35= .bool x35_18∧Aside0 (patch_lengths.j2 kq l0 l1 x5_2 x6_1 x7_2 x35_18=some r)∧Aside0 (kq≤k2)∧Aside0 (Kd.S (Kd.slice 3 (Kd.int .i64)) 72 wc w.heap.size (fun _=>True) (.slice (some ⟨go14,0,none⟩) x5_2.length co14) x5_2)∧Aside0 (Below w.heap.size w wc))
 case first=>
  (
 have H:=HC19.out
 clear HC19
 by_cases c20:x7_2≥0
 {
 rw [if_pos c20] at H
 have c20b0:decide (0≤x7_2)=true:=decide_eq_true c20
 clear c20
 (first|rw [c20b0]|(simp only [i64_w,i32_w];rw [c20b0])|skip)
 have H':=Aside0.mk H
 clear H
 go_wp2
 go_meet
 case rel=>exact ⟨_,(decide (x6_1<(l0.length:Int))),r0_,H',⟨by have:=HK1.out;have:=HK2.out;first|omega|exact Nat.le_refl _⟩,⟨by (try simp only [hl5_2]);(with_reducible repeat (first|apply Kd.S_alloc|apply Kd.S_drewN|apply Kd.S_drew));exact HO_5.out⟩,⟨b0_⟩⟩
 }
 {
 rw [if_neg c20] at H
 have c20b0:decide (0≤x7_2)=false:=decide_eq_false c20
 clear c20
 (first|rw [c20b0]|(simp only [i64_w,i32_w];rw [c20b0])|skip)
 have H':=Aside0.mk H
 clear H
 go_wp2
 go_meet
 case rel=>exact ⟨_,(false),r0_,H',⟨by have:=HK1.out;have:=HK2.out;first|omega|exact Nat.le_refl _⟩,⟨by (try simp only [hl5_2]);(with_reducible repeat (first|apply Kd.S_alloc|apply Kd.S_drewN|apply Kd.S_drew));exact HO_5.out⟩,⟨b0_⟩⟩
 }
  )
 case rest=>
  (
 clear HC19
 try clear c1
 try clear p1
 try clear q1
 try clear hx1
 try clear c2
 try clear p2
 try clear c3
 try clear c4
 try clear c4b0
 try clear c4b1
 try clear c5
 try clear c5b0
 try clear c5b1
 try clear p6
 try clear c8
 try clear c8b0
 try clear c10
 try clear c10b0
 try clear c10b1
 try clear c11
 try clear c11b0
 try clear c11b1
 try clear c12
 try clear c12b0
 try clear c13
 try clear c13b0
 try clear c14
 try clear p14
 try clear q14
 try clear hx14
 try clear hf14
 try clear c17
 try clear hx17
 try clear hf17
 try clear c20
 try clear c20b0
 try clear hx14_0
 try clear hx17_0
 try clear p1
 try clear p14
 try clear p2
 try clear p6
 try clear q1
 try clear q14
 obtain ⟨kq,x35_18,rfl,HA,HJ18,HO_5,HB⟩:=hcut
 cases kq with
 |zero=>exact absurd HA.out (by simp [patch_lengths.j2])
 |succ kj18=>
  (
 have H:=HA.out
 clear HA
 simp only [patch_lengths.j2] at H
 by_cases c21:x35_18=true
 {
 subst c21
 replace H:=tp_ H
 by_cases c22:0≤x6_1
 {
 rw [if_pos c22] at H
 have c22b0:decide (0≤x6_1)=true:=decide_eq_true c22
 clear c22
 by_cases c23:x6_1<(l0.length:Int)
 {
 rw [if_pos c23] at H
 have c23b0:decide (x6_1<(l0.length:Int))=true:=decide_eq_true c23
 clear c23
 by_cases c24:0≤x7_2
 {
 rw [if_pos c24] at H
 have c24b0:decide (0≤x7_2)=true:=decide_eq_true c24
 clear c24
 by_cases c25:x7_2<(l1.length:Int)
 {
 rw [if_pos c25] at H
 have c25b0:decide (x7_2<(l1.length:Int))=true:=decide_eq_true c25
 clear c25
 obtain ⟨t115,A26,H⟩:=ob_ H
 by_cases c27:t115=true
 {
 subst c27
 replace H:=tp_ H
 by_cases c28:x6_1<(x5_2.length:Int)
 {
 rw [if_pos c28] at H
 have c28b0:decide (x6_1<(x5_2.length:Int))=true:=decide_eq_true c28
 clear c28
 obtain ⟨ji29,hji29⟩:∃ j_:Int,(wrap64 (x6_1+1))=j_:=⟨_,rfl⟩
 replace H:(if 0≤(ji29) then (if (ji29)<(x5_2.length:Int) then (if 0≤(wrap64 (x7_2+1)) then (if (wrap64 (x7_2+1))<((rd_L4 x5_2 (ji29)).length:Int) then (if x7_2<((rd_L4 x5_2 x6_1).length:Int) then (patch_lengths.l1 kj18 l0 l1 (x5_2.set (x6_1:Int).toNat ((rd_L4 x5_2 x6_1).set (x7_2:Int).toNat (wrap64 ((rd (rd_L4 x5_2 (ji29)) (wrap64 (x7_2+1)))+1)))) x6_1 (wrap64 (x7_2 - 1))) else (none)) else (none)) else (none)) else (none)) else (none))=some r:=by first|(rw [hji29] at H;exact H)|(simp only [hji29] at H⊢;exact H)
 (try rw [hji29] at A26)
 have hji29w:(IntKind.i64.wrap (x6_1+1))=ji29:=(i64_w _).trans hji29
 by_cases c30:0≤(ji29)
 {
 rw [if_pos c30] at H
 have c30b0:decide (0≤(ji29))=true:=decide_eq_true c30
 clear c30
 by_cases c31:(ji29)<(x5_2.length:Int)
 {
 rw [if_pos c31] at H
 have c31b0:decide ((ji29)<(x5_2.length:Int))=true:=decide_eq_true c31
 clear c31
 obtain ⟨ji32,hji32⟩:∃ j_:Int,(wrap64 (x7_2+1))=j_:=⟨_,rfl⟩
 replace H:(if 0≤(ji32) then (if (ji32)<((rd_L4 x5_2 (ji29)).length:Int) then (if x7_2<((rd_L4 x5_2 x6_1).length:Int) then (patch_lengths.l1 kj18 l0 l1 (x5_2.set (x6_1:Int).toNat ((rd_L4 x5_2 x6_1).set (x7_2:Int).toNat (wrap64 ((rd (rd_L4 x5_2 (ji29)) (ji32))+1)))) x6_1 (wrap64 (x7_2 - 1))) else (none)) else (none)) else (none))=some r:=by first|(rw [hji32] at H;exact H)|(simp only [hji32] at H⊢;exact H)
 (try rw [hji32] at A26)
 have hji32w:(IntKind.i64.wrap (x7_2+1))=ji32:=(i64_w _).trans hji32
 by_cases c33:0≤(ji32)
 {
 rw [if_pos c33] at H
 have c33b0:decide (0≤(ji32))=true:=decide_eq_true c33
 clear c33
 by_cases c34:(ji32)<((rd_L4 x5_2 (ji29)).length:Int)
 {
 rw [if_pos c34] at H
 have c34b0:decide ((ji32)<((rd_L4 x5_2 (ji29)).length:Int))=true:=decide_eq_true c34
 clear c34
 by_cases c35:x7_2<((rd_L4 x5_2 x6_1).length:Int)
 {
 rw [if_pos c35] at H
 have c35b0:decide (x7_2<((rd_L4 x5_2 x6_1).length:Int))=true:=decide_eq_true c35
 clear c35
 obtain ⟨y119,hy119⟩:∃ y_:List Int,y_=((rd_L4 x5_2 x6_1).set (x7_2:Int).toNat (wrap64 ((rd (rd_L4 x5_2 (ji29)) (ji32))+1))):=⟨_,rfl⟩
 replace H:(patch_lengths.l1 kj18 l0 l1 (x5_2.set (x6_1:Int).toNat y119) x6_1 (wrap64 (x7_2 - 1)))=some r:=by first|(rw [hy119];with_reducible exact H)|(have H2_:=(Option.bind_some _ _).symm.trans H;rw [hy119];with_reducible exact H2_)|(have H2_:=(Option.bind_some _ _).symm.trans H;with_reducible exact H2_)|with_reducible exact H|(rw [hy119];exact H)|exact H
 have Ny119:=Aside0.mk hy119
 clear hy119
 obtain ⟨y121,hy121⟩:∃ y_:List (List Int),y_=(x5_2.set (x6_1:Int).toNat y119):=⟨_,rfl⟩
 replace H:(patch_lengths.l1 kj18 l0 l1 y121 x6_1 (wrap64 (x7_2 - 1)))=some r:=by first|(rw [hy121];with_reducible exact H)|(have H2_:=(Option.bind_some _ _).symm.trans H;rw [hy121];with_reducible exact H2_)|(have H2_:=(Option.bind_some _ _).symm.trans H;with_reducible exact H2_)|with_reducible exact H|(rw [hy121];exact H)|exact H
 have Ny121:=Aside0.mk hy121
 clear hy121
 have H':=Aside0.mk H
 clear H
 try go_wp2
 have n0_:=Aside0.mk (Kd.S_drew HO_5.out)
 have n1_:=Aside0.mk (below_drew1 HB.out)
 clear HO_5
 clear HB
 have HO_5:=n0_
 have HB:=n1_
 clear n0_ n1_
 have p113:0≤(x6_1:Int):=od_
 have q113:x6_1<(l0.length:Int):=od_
 obtain ⟨ad113,A113_3,c113_3,e113,hx113_0,hx113_1,hx113_2,hx113_3,hl113_3,hi113_3⟩:=at_T50 HR0.out x6_1 p113 q113
 have hw113_3:=hx113_3
 have hw113_2:=hx113_2
 have hw113_1:=hx113_1
 have hw113_0:=hx113_0
 cases e113
 replace hx113_0:=cel_ HB hx113_0
 replace hx113_1:=cel_ HB hx113_1
 replace hx113_2:=cel_ HB hx113_2
 replace hx113_3:=cel_ HB hx113_3
 have HR113_3:=Aside0.mk hi113_3
 have HC113_3:=Aside0.mk hl113_3
 clear hi113_3 hl113_3
 replace p113:=eq_true p113
 replace q113:=eq_true q113
 have p114:0≤(x7_2:Int):=od_
 have q114:x7_2<(l1.length:Int):=od_
 obtain ⟨ad114,A114_3,c114_3,e114,hx114_0,hx114_1,hx114_2,hx114_3,hl114_3,hi114_3⟩:=at_T50 HR1.out x7_2 p114 q114
 have hw114_3:=hx114_3
 have hw114_2:=hx114_2
 have hw114_1:=hx114_1
 have hw114_0:=hx114_0
 cases e114
 replace hx114_0:=cel_ HB hx114_0
 replace hx114_1:=cel_ HB hx114_1
 replace hx114_2:=cel_ HB hx114_2
 replace hx114_3:=cel_ HB hx114_3
 have HR114_3:=Aside0.mk hi114_3
 have HC114_3:=Aside0.mk hl114_3
 clear hi114_3 hl114_3
 replace p114:=eq_true p114
 replace q114:=eq_true q114
 refine start_ (n:=9) (S:=fun w'=>w'.cell? (ad113.add ((x6_1).toNat * 4))=some (.string ((rd_T50 l0 x6_1).f0))∧w'.cell? ⟨(ad113.add ((x6_1).toNat * 4)).block,(ad113.add ((x6_1).toNat * 4)).off+1,none⟩=some (.int .u8 ((rd_T50 l0 x6_1).f1.f0))∧w'.cell? ⟨(ad113.add ((x6_1).toNat * 4)).block,(ad113.add ((x6_1).toNat * 4)).off+2,none⟩=some (.int .u8 ((rd_T50 l0 x6_1).f1.f1))∧w'.cell? ⟨(ad113.add ((x6_1).toNat * 4)).block,(ad113.add ((x6_1).toNat * 4)).off+3,none⟩=some (.slice A113_3 ((rd_T50 l0 x6_1).f2).length c113_3)∧w'.cell? (ad114.add ((x7_2).toNat * 4))=some (.string ((rd_T50 l1 x7_2).f0))∧w'.cell? ⟨(ad114.add ((x7_2).toNat * 4)).block,(ad114.add ((x7_2).toNat * 4)).off+1,none⟩=some (.int .u8 ((rd_T50 l1 x7_2).f1.f0))∧w'.cell? ⟨(ad114.add ((x7_2).toNat * 4)).block,(ad114.add ((x7_2).toNat * 4)).off+2,none⟩=some (.int .u8 ((rd_T50 l1 x7_2).f1.f1))∧w'.cell? ⟨(ad114.add ((x7_2).toNat * 4)).block,(ad114.add ((x7_2).toNat * 4)).off+3,none⟩=some (.slice A114_3 ((rd_T50 l1 x7_2).f2).length c114_3)) (ds:=[]) #[false,false,false,false,false,false,false,false,false] (by kernel_rfl) rfl rfl ⟨(cel_ HB hw113_0),(cel_ HB hw113_1),(cel_ HB hw113_2),(cel_ HB hw113_3),(cel_ HB hw114_0),(cel_ HB hw114_1),(cel_ HB hw114_2),(cel_ HB hw114_3)⟩ (fun hHeld=> ?_);refine with_tabW patch_lengths.tab9 patch_lengths.bits9 (fun HT_ HW_=> ?_)
 generalize wc.drew=w37 at HO_5 HB HR113_3 HR114_3 hx113_0 hx113_1 hx113_2 hx113_3 hx114_0 hx114_1 hx114_2 hx114_3 hHeld⊢
 refine pA_ (i:=0) (N:=some 38) HT_ ?_
 refine pA_ (i:=1) (N:=some 39) HT_ ?_
 refine pA_ (i:=2) (N:=some 40) HT_ ?_
 refine pA_ (i:=4) (N:=some 42) HT_ ?_
 refine pA_ (i:=5) (N:=some 43) HT_ ?_
 refine pA_ (i:=6) (N:=some 44) HT_ ?_
 refine tA_ (i:=3) (N:=some 41) HT_ HW_ hHeld ?_
 refine tA_ (i:=7) (N:=some 45) HT_ HW_ hHeld ?_
 refine one_ (i:=8) (N:=some 46) #[true,true,true,true,true,true,true,true,true] rfl rfl (one_of HT_.out (by kernel_rfl)) (by decide) (fun K hK=> ?_)
 refine goes_ Tryd.func38 (by kernel_rfl) rfl #[.agg #[.string ((rd_T50 l0 x6_1).f0),.int .u8 ((rd_T50 l0 x6_1).f1.f0),.int .u8 ((rd_T50 l0 x6_1).f1.f1),.slice A113_3 ((rd_T50 l0 x6_1).f2).length c113_3],.agg #[.string ((rd_T50 l1 x7_2).f0),.int .u8 ((rd_T50 l1 x7_2).f1.f0),.int .u8 ((rd_T50 l1 x7_2).f1.f1),.slice A114_3 ((rd_T50 l1 x7_2).f2).length c114_3]] (by rfl) rfl rfl ml_ ?_
 with_reducible refine (patch_same.calls kj18 ((rd_T50 l0 x6_1).f0) ((rd_T50 l0 x6_1).f1.f0) ((rd_T50 l0 x6_1).f1.f1) _ _ ((rd_T50 l0 x6_1).f2) ((rd_T50 l1 x7_2).f0) ((rd_T50 l1 x7_2).f1.f0) ((rd_T50 l1 x7_2).f1.f1) _ _ ((rd_T50 l1 x7_2).f2) true _ ?side1 ?side2 ?side3 ?side4 A26.out).mono ?_
 (case side1=>exact c0_)
 (case side2=>exact HC113_3.out)
 (case side3=>exact c0_)
 (case side4=>exact HC114_3.out)
 rintro e w38 ⟨rfl,hb⟩
 refine ⟨_,rfl,?_⟩
 have n0_:=Aside0.mk (Kd.S_below (xS_ HO_5) hb)
 have n1_:=Aside0.mk (below_step b0_ hb)
 clear HO_5
 clear HB
 have HO_5:=n0_
 have HB:=n1_
 clear n0_ n1_
 (try clear hb)
 (try clear hk)
 refine hK.out _ _ ⟨(cel_ HB hw113_0),(cel_ HB hw113_1),(cel_ HB hw113_2),(cel_ HB hw113_3),(cel_ HB hw114_0),(cel_ HB hw114_1),(cel_ HB hw114_2),(cel_ HB hw114_3)⟩ (fun hHeld=> ?_)
 clear hK K
 refine norm_ (a':=?_) ?_ ?_
 rotate_left
 {
 show Act.put _ (some 46) _=_
 simp only [Act.put,List.setIfInBounds_toArray,List.set_cons_zero,List.set_cons_succ,i64_w,i32_w]
 rfl
 }
 refine done_ (done_of HT_.out (by kernel_rfl)) ?_
 try go_wp2
 have n0_:=Aside0.mk (Kd.S_drew HO_5.out)
 have n1_:=Aside0.mk (below_drew1 HB.out)
 clear HO_5
 clear HB
 have HO_5:=n0_
 have HB:=n1_
 clear n0_ n1_
 have p116:0≤(x6_1:Int):=od_
 have q116:x6_1<(x5_2.length:Int):=od_
 obtain ⟨ad116,A116_0,c116_0,e116,hx116_0,hl116_0,hi116_0⟩:=at_L4 (Kd.S_reads' HO_5.out).2.2 x6_1 p116 q116
 obtain rfl:(⟨go14,0,none⟩:Addr)=ad116:=(by injection e116)
 obtain ⟨ce116,hce116,hMe116,hcc116⟩:=Kd.S_get HO_5.out [] x6_1 p116 (by first|exact q116|exact od_|(have e_:=(Kd.S_reads' HO_5.out).1;omega))
 obtain ⟨ve116_0,rfl,ge116_0⟩:=hMe116
 have hv116_0:=hcc116 0 _ rfl
 rw [Nat.add_zero,show ((Kd.slice 3 (Kd.int .i64))).sz=1 from rfl,Nat.mul_one] at hv116_0
 replace hv116_0:=Option.some.inj (hv116_0.symm.trans hx116_0)
 rw [hv116_0] at ge116_0
 have HL116_0:=Aside0.mk (show Kd.R (Kd.int .i64) 3 _ _ _ _ (rd_L4 x5_2 x6_1) from ge116_0)
 clear hv116_0 ge116_0
 have HX116_0:=Aside0.mk hx116_0
 clear hcc116 hce116
 (first|simp only [add_plain] at hx116_0|simp only [add_at] at hx116_0|simp only [Addr.add,Nat.zero_add] at hx116_0|skip)
 have HR116_0:=Aside0.mk hi116_0
 have HC116_0:=Aside0.mk hl116_0
 clear hi116_0 hl116_0
 replace p116:=eq_true p116
 replace q116:=eq_true q116
 have p117:0≤((ji29):Int):=od_
 have q117:(ji29)<(x5_2.length:Int):=od_
 obtain ⟨ad117,A117_0,c117_0,e117,hx117_0,hl117_0,hi117_0⟩:=at_L4 (Kd.S_reads' HO_5.out).2.2 (ji29) p117 q117
 obtain rfl:(⟨go14,0,none⟩:Addr)=ad117:=(by injection e117)
 obtain ⟨ce117,hce117,hMe117,hcc117⟩:=Kd.S_get HO_5.out [] (ji29) p117 (by first|exact q117|exact od_|(have e_:=(Kd.S_reads' HO_5.out).1;omega))
 obtain ⟨ve117_0,rfl,ge117_0⟩:=hMe117
 have hv117_0:=hcc117 0 _ rfl
 rw [Nat.add_zero,show ((Kd.slice 3 (Kd.int .i64))).sz=1 from rfl,Nat.mul_one] at hv117_0
 replace hv117_0:=Option.some.inj (hv117_0.symm.trans hx117_0)
 rw [hv117_0] at ge117_0
 have HL117_0:=Aside0.mk (show Kd.R (Kd.int .i64) 3 _ _ _ _ (rd_L4 x5_2 (ji29)) from ge117_0)
 clear hv117_0 ge117_0
 have HX117_0:=Aside0.mk hx117_0
 clear hcc117 hce117
 (first|simp only [add_plain] at hx117_0|simp only [add_at] at hx117_0|simp only [Addr.add,Nat.zero_add] at hx117_0|skip)
 have HR117_0:=Aside0.mk hi117_0
 have HC117_0:=Aside0.mk hl117_0
 clear hi117_0 hl117_0
 replace p117:=eq_true p117
 replace q117:=eq_true q117
 have p118:0≤((ji32):Int):=od_
 have q118:(ji32)<((rd_L4 x5_2 (ji29)).length:Int):=od_
 obtain ⟨ad118,e118,hx118_0⟩:=Kd.at_int (c1_ HR117_0) (ji32) p118 q118
 cases e118
 replace p118:=eq_true p118
 replace q118:=eq_true q118
 have p36:0≤(x7_2:Int):=od_
 have q36:(x7_2:Int)<(((rd_L4 x5_2 x6_1).length:Int):Int):=od_
 obtain ⟨go36,co36,eo36,gb36,gl36,cl36,HG36⟩:=Kd.R_form HL116_0.out (by omega)
 (first|cases eo36|(injection eo36 with ea_ en_ ec_;(first|subst ea_|(injection ea_ with ea_;subst ea_));subst ec_;clear en_))
 have GB36:=Aside0.mk gb36
 have GG36:=Aside0.mk HG36
 clear gb36 gl36 HG36
 obtain ⟨hx36_0,hf36_0⟩:=Kd.R_celln 0 HL116_0.out (x7_2:Int) p36 q36
 replace p36:=eq_true p36
 replace q36:=eq_true q36
 have hq40:(x6_1:Int)<(x5_2.length:Int):=(by have h_:(x6_1:Int)<((x5_2.length:Int):Int):=od_;first|exact h_|(have e_:=(Kd.S_reads' HO_5.out).1;omega)|simpa only [List.length_set,List.length_set] using h_)
 obtain ⟨oki40,ce40,hcl40,hM40,hcc40,hok40,hbk40⟩:=Kd.S_borrow HO_5.out [] (x6_1:Int) od_ (by first|exact hq40|exact od_)
 obtain ⟨ve40_0,rfl,ge40_0⟩:=hM40
 have hv40:=hcc40 0 _ rfl
 rw [Nat.add_zero,show ((Kd.slice 3 (Kd.int .i64))).sz=1 from rfl,Nat.mul_one] at hv40
 replace hv40:=Option.some.inj (hv40.symm.trans HX116_0.out)
 subst hv40
 clear hcc40 hcl40
 replace ge40_0:=(show Kd.R (Kd.int .i64) 3 _ _ _ _ (rd_L4 x5_2 x6_1) from ge40_0)
 have HP40:=Kd.R_putg ge40_0 (x7_2:Int) (wrap64 ((rd (rd_L4 x5_2 (ji29)) (ji32))+1))
 rw [←Ny119.out] at HP40
 have HS40:=hbk40 HP40.2 (fun k_ e_=>by injection e_ with e_;subst e_;exact ge40_0.1 _ rfl) (x':=y119) (Kd.M_row HP40.1)
 rw [←Ny121.out] at HS40
 have HQ40:=Aside0.mk HS40
 clear HP40 HS40 hbk40 hok40
 refine start_ (n:=17) (S:=fun w'=>w'.cell? ⟨go14,(x6_1).toNat,none⟩=some (.slice (some (⟨go36,0,none⟩:Addr)) (rd_L4 x5_2 x6_1).length c116_0)∧w'.cell? ⟨go14,((ji29)).toNat,none⟩=some (.slice (some ad118) (rd_L4 x5_2 (ji29)).length c117_0)∧w'.cell? (ad118.add ((ji32)).toNat)=some (.int .i64 (rd (rd_L4 x5_2 (ji29)) (ji32)))) (ds:=[16]) #[false,false,false,false,false,false,false,false,false,false,false,false,false,false,false,false,false] (by kernel_rfl) rfl rfl ⟨hx116_0,hx117_0,hx118_0⟩ (fun hHeld=> ?_);refine with_tabW patch_lengths.tab10 patch_lengths.bits10 (fun HT_ HW_=> ?_)
 generalize w38.drew=w39 at HO_5 HB GG36 HL116_0 HL117_0 HQ40 HR116_0 HR117_0 HX116_0 HX117_0 hf36_0 hx116_0 hx117_0 hx118_0 hx36_0 hHeld⊢
 refine pA_ (i:=0) (N:=some 47) HT_ ?_
 refine pA_ (i:=1) (N:=some 48) HT_ ?_
 refine pA_ (i:=2) (N:=some 49) HT_ ?_
 refine pA_ (i:=4) (N:=some 51) HT_ ?_
 refine pA_ (i:=5) (N:=some 52) HT_ ?_
 refine pA_ (i:=6) (N:=some 53) HT_ ?_
 refine pA_ (i:=7) (N:=some 54) HT_ ?_
 refine pA_ (i:=8) (N:=some 55) HT_ ?_
 refine pA_ (i:=10) (N:=some 57) HT_ ?_
 refine pA_ (i:=11) (N:=some 58) HT_ ?_
 refine tA_ (i:=3) (N:=some 50) HT_ HW_ hHeld ?_
 refine tA_ (i:=9) (N:=some 56) HT_ HW_ hHeld ?_
 refine pA_ (i:=12) (N:=some 59) HT_ ?_
 refine tA_ (i:=13) (N:=some 60) HT_ HW_ hHeld ?_
 refine pA_ (i:=14) (N:=some 61) HT_ ?_
 refine pA_ (i:=15) (N:=some 62) HT_ ?_
 refine last_ (i:=16) (N:=none) #[true,true,true,true,true,true,true,true,true,true,true,true,true,true,true,true,true] rfl rfl (one_of HT_.out (by kernel_rfl)) (by decide) (fun K hK=> ?_)
 refine skip_ (w1:=?_) (by rfl) rfl ?_ ?_
 rotate_left
 {
 go_simp
 rfl
 }
 refine hK.out _ _ ?_
 clear hK K
 refine done_ (done_of HT_.out (by kernel_rfl)) ?_
 try go_wp2
 (try simp only [←hl5_2])
 go_roundg kj18
 case measure=>have:=HK1.out;have:=HK2.out;have:=HJ18.out;omega
 case rel=>exact ⟨(y121),(wrap64 (x7_2 - 1)),r0_,H',⟨by have:=HK1.out;have:=HK2.out;have:=HJ18.out;omega⟩,⟨by (try simp only [hl5_2]);(with_reducible repeat (first|apply Kd.S_alloc|apply Kd.S_drewN|apply Kd.S_drew));exact HQ40.out⟩,⟨by repeat (first|(with_reducible first|exact HB.out|apply below_alloc|apply pw_below_drewN|apply below_drew1|refine below_set ?_ GB36.out)|exact HB.out)⟩⟩
 }
 {
 rw [if_neg c35] at H
 exact absurd H (by simp)
 }
 }
 {
 rw [if_neg c34] at H
 exact absurd H (by simp)
 }
 }
 {
 rw [if_neg c33] at H
 exact absurd H (by simp)
 }
 }
 {
 rw [if_neg c31] at H
 exact absurd H (by simp)
 }
 }
 {
 rw [if_neg c30] at H
 exact absurd H (by simp)
 }
 }
 {
 rw [if_neg c28] at H
 exact absurd H (by simp)
 }
 }
 {
 replace c27:=Bool.eq_false_iff.mpr c27
 subst c27
 replace H:=fn_ H
 by_cases c42:x6_1<(x5_2.length:Int)
 {
 rw [if_pos c42] at H
 have c42b0:decide (x6_1<(x5_2.length:Int))=true:=decide_eq_true c42
 clear c42
 obtain ⟨ji43,hji43⟩:∃ j_:Int,(wrap64 (x6_1+1))=j_:=⟨_,rfl⟩
 replace H:(if 0≤(ji43) then (if (ji43)<(x5_2.length:Int) then (if x7_2<((rd_L4 x5_2 (ji43)).length:Int) then (if 0≤(wrap64 (x7_2+1)) then (if (wrap64 (x7_2+1))<((rd_L4 x5_2 x6_1).length:Int) then (if x7_2<((rd_L4 x5_2 x6_1).length:Int) then (patch_lengths.l1 kj18 l0 l1 (x5_2.set (x6_1:Int).toNat ((rd_L4 x5_2 x6_1).set (x7_2:Int).toNat (mx (rd (rd_L4 x5_2 (ji43)) x7_2) (rd (rd_L4 x5_2 x6_1) (wrap64 (x7_2+1)))))) x6_1 (wrap64 (x7_2 - 1))) else (none)) else (none)) else (none)) else (none)) else (none)) else (none))=some r:=by first|(rw [hji43] at H;exact H)|(simp only [hji43] at H⊢;exact H)
 (try rw [hji43] at A26)
 have hji43w:(IntKind.i64.wrap (x6_1+1))=ji43:=(i64_w _).trans hji43
 by_cases c44:0≤(ji43)
 {
 rw [if_pos c44] at H
 have c44b0:decide (0≤(ji43))=true:=decide_eq_true c44
 clear c44
 by_cases c45:(ji43)<(x5_2.length:Int)
 {
 rw [if_pos c45] at H
 have c45b0:decide ((ji43)<(x5_2.length:Int))=true:=decide_eq_true c45
 clear c45
 by_cases c46:x7_2<((rd_L4 x5_2 (ji43)).length:Int)
 {
 rw [if_pos c46] at H
 have c46b0:decide (x7_2<((rd_L4 x5_2 (ji43)).length:Int))=true:=decide_eq_true c46
 clear c46
 obtain ⟨ji47,hji47⟩:∃ j_:Int,(wrap64 (x7_2+1))=j_:=⟨_,rfl⟩
 replace H:(if 0≤(ji47) then (if (ji47)<((rd_L4 x5_2 x6_1).length:Int) then (if x7_2<((rd_L4 x5_2 x6_1).length:Int) then (patch_lengths.l1 kj18 l0 l1 (x5_2.set (x6_1:Int).toNat ((rd_L4 x5_2 x6_1).set (x7_2:Int).toNat (mx (rd (rd_L4 x5_2 (ji43)) x7_2) (rd (rd_L4 x5_2 x6_1) (ji47))))) x6_1 (wrap64 (x7_2 - 1))) else (none)) else (none)) else (none))=some r:=by first|(rw [hji47] at H;exact H)|(simp only [hji47] at H⊢;exact H)
 (try rw [hji47] at A26)
 have hji47w:(IntKind.i64.wrap (x7_2+1))=ji47:=(i64_w _).trans hji47
 by_cases c48:0≤(ji47)
 {
 rw [if_pos c48] at H
 have c48b0:decide (0≤(ji47))=true:=decide_eq_true c48
 clear c48
 by_cases c49:(ji47)<((rd_L4 x5_2 x6_1).length:Int)
 {
 rw [if_pos c49] at H
 have c49b0:decide ((ji47)<((rd_L4 x5_2 x6_1).length:Int))=true:=decide_eq_true c49
 clear c49
 obtain ⟨ji50,hji50⟩:∃ j_:Int,(mx (rd (rd_L4 x5_2 (ji43)) x7_2) (rd (rd_L4 x5_2 x6_1) (ji47)))=j_:=⟨_,rfl⟩
 replace H:(if x7_2<((rd_L4 x5_2 x6_1).length:Int) then (patch_lengths.l1 kj18 l0 l1 (x5_2.set (x6_1:Int).toNat ((rd_L4 x5_2 x6_1).set (x7_2:Int).toNat (ji50))) x6_1 (wrap64 (x7_2 - 1))) else (none))=some r:=by first|(rw [hji50] at H;exact H)|(simp only [hji50] at H⊢;exact H)
 (try rw [hji50] at A26)
 have hji50_:(if (rd (rd_L4 x5_2 (ji43)) x7_2)<(rd (rd_L4 x5_2 x6_1) (ji47)) then (rd (rd_L4 x5_2 x6_1) (ji47)) else (rd (rd_L4 x5_2 (ji43)) x7_2))=ji50:=hji50
 by_cases c51:x7_2<((rd_L4 x5_2 x6_1).length:Int)
 {
 rw [if_pos c51] at H
 have c51b0:decide (x7_2<((rd_L4 x5_2 x6_1).length:Int))=true:=decide_eq_true c51
 clear c51
 obtain ⟨y127,hy127⟩:∃ y_:List Int,y_=((rd_L4 x5_2 x6_1).set (x7_2:Int).toNat (ji50)):=⟨_,rfl⟩
 replace H:(patch_lengths.l1 kj18 l0 l1 (x5_2.set (x6_1:Int).toNat y127) x6_1 (wrap64 (x7_2 - 1)))=some r:=by first|(rw [hy127];with_reducible exact H)|(have H2_:=(Option.bind_some _ _).symm.trans H;rw [hy127];with_reducible exact H2_)|(have H2_:=(Option.bind_some _ _).symm.trans H;with_reducible exact H2_)|with_reducible exact H|(rw [hy127];exact H)|exact H
 have Ny127:=Aside0.mk hy127
 clear hy127
 obtain ⟨y129,hy129⟩:∃ y_:List (List Int),y_=(x5_2.set (x6_1:Int).toNat y127):=⟨_,rfl⟩
 replace H:(patch_lengths.l1 kj18 l0 l1 y129 x6_1 (wrap64 (x7_2 - 1)))=some r:=by first|(rw [hy129];with_reducible exact H)|(have H2_:=(Option.bind_some _ _).symm.trans H;rw [hy129];with_reducible exact H2_)|(have H2_:=(Option.bind_some _ _).symm.trans H;with_reducible exact H2_)|with_reducible exact H|(rw [hy129];exact H)|exact H
 have Ny129:=Aside0.mk hy129
 clear hy129
 have H':=Aside0.mk H
 clear H
 try go_wp2
 have n0_:=Aside0.mk (Kd.S_drew HO_5.out)
 have n1_:=Aside0.mk (below_drew1 HB.out)
 clear HO_5
 clear HB
 have HO_5:=n0_
 have HB:=n1_
 clear n0_ n1_
 have p113:0≤(x6_1:Int):=od_
 have q113:x6_1<(l0.length:Int):=od_
 obtain ⟨ad113,A113_3,c113_3,e113,hx113_0,hx113_1,hx113_2,hx113_3,hl113_3,hi113_3⟩:=at_T50 HR0.out x6_1 p113 q113
 have hw113_3:=hx113_3
 have hw113_2:=hx113_2
 have hw113_1:=hx113_1
 have hw113_0:=hx113_0
 cases e113
 replace hx113_0:=cel_ HB hx113_0
 replace hx113_1:=cel_ HB hx113_1
 replace hx113_2:=cel_ HB hx113_2
 replace hx113_3:=cel_ HB hx113_3
 have HR113_3:=Aside0.mk hi113_3
 have HC113_3:=Aside0.mk hl113_3
 clear hi113_3 hl113_3
 replace p113:=eq_true p113
 replace q113:=eq_true q113
 have p114:0≤(x7_2:Int):=od_
 have q114:x7_2<(l1.length:Int):=od_
 obtain ⟨ad114,A114_3,c114_3,e114,hx114_0,hx114_1,hx114_2,hx114_3,hl114_3,hi114_3⟩:=at_T50 HR1.out x7_2 p114 q114
 have hw114_3:=hx114_3
 have hw114_2:=hx114_2
 have hw114_1:=hx114_1
 have hw114_0:=hx114_0
 cases e114
 replace hx114_0:=cel_ HB hx114_0
 replace hx114_1:=cel_ HB hx114_1
 replace hx114_2:=cel_ HB hx114_2
 replace hx114_3:=cel_ HB hx114_3
 have HR114_3:=Aside0.mk hi114_3
 have HC114_3:=Aside0.mk hl114_3
 clear hi114_3 hl114_3
 replace p114:=eq_true p114
 replace q114:=eq_true q114
 refine start_ (n:=9) (S:=fun w'=>w'.cell? (ad113.add ((x6_1).toNat * 4))=some (.string ((rd_T50 l0 x6_1).f0))∧w'.cell? ⟨(ad113.add ((x6_1).toNat * 4)).block,(ad113.add ((x6_1).toNat * 4)).off+1,none⟩=some (.int .u8 ((rd_T50 l0 x6_1).f1.f0))∧w'.cell? ⟨(ad113.add ((x6_1).toNat * 4)).block,(ad113.add ((x6_1).toNat * 4)).off+2,none⟩=some (.int .u8 ((rd_T50 l0 x6_1).f1.f1))∧w'.cell? ⟨(ad113.add ((x6_1).toNat * 4)).block,(ad113.add ((x6_1).toNat * 4)).off+3,none⟩=some (.slice A113_3 ((rd_T50 l0 x6_1).f2).length c113_3)∧w'.cell? (ad114.add ((x7_2).toNat * 4))=some (.string ((rd_T50 l1 x7_2).f0))∧w'.cell? ⟨(ad114.add ((x7_2).toNat * 4)).block,(ad114.add ((x7_2).toNat * 4)).off+1,none⟩=some (.int .u8 ((rd_T50 l1 x7_2).f1.f0))∧w'.cell? ⟨(ad114.add ((x7_2).toNat * 4)).block,(ad114.add ((x7_2).toNat * 4)).off+2,none⟩=some (.int .u8 ((rd_T50 l1 x7_2).f1.f1))∧w'.cell? ⟨(ad114.add ((x7_2).toNat * 4)).block,(ad114.add ((x7_2).toNat * 4)).off+3,none⟩=some (.slice A114_3 ((rd_T50 l1 x7_2).f2).length c114_3)) (ds:=[]) #[false,false,false,false,false,false,false,false,false] (by kernel_rfl) rfl rfl ⟨(cel_ HB hw113_0),(cel_ HB hw113_1),(cel_ HB hw113_2),(cel_ HB hw113_3),(cel_ HB hw114_0),(cel_ HB hw114_1),(cel_ HB hw114_2),(cel_ HB hw114_3)⟩ (fun hHeld=> ?_);refine with_tabW patch_lengths.tab9 patch_lengths.bits9 (fun HT_ HW_=> ?_)
 generalize wc.drew=w53 at HO_5 HB HR113_3 HR114_3 hx113_0 hx113_1 hx113_2 hx113_3 hx114_0 hx114_1 hx114_2 hx114_3 hHeld⊢
 refine pA_ (i:=0) (N:=some 38) HT_ ?_
 refine pA_ (i:=1) (N:=some 39) HT_ ?_
 refine pA_ (i:=2) (N:=some 40) HT_ ?_
 refine pA_ (i:=4) (N:=some 42) HT_ ?_
 refine pA_ (i:=5) (N:=some 43) HT_ ?_
 refine pA_ (i:=6) (N:=some 44) HT_ ?_
 refine tA_ (i:=3) (N:=some 41) HT_ HW_ hHeld ?_
 refine tA_ (i:=7) (N:=some 45) HT_ HW_ hHeld ?_
 refine one_ (i:=8) (N:=some 46) #[true,true,true,true,true,true,true,true,true] rfl rfl (one_of HT_.out (by kernel_rfl)) (by decide) (fun K hK=> ?_)
 refine goes_ Tryd.func38 (by kernel_rfl) rfl #[.agg #[.string ((rd_T50 l0 x6_1).f0),.int .u8 ((rd_T50 l0 x6_1).f1.f0),.int .u8 ((rd_T50 l0 x6_1).f1.f1),.slice A113_3 ((rd_T50 l0 x6_1).f2).length c113_3],.agg #[.string ((rd_T50 l1 x7_2).f0),.int .u8 ((rd_T50 l1 x7_2).f1.f0),.int .u8 ((rd_T50 l1 x7_2).f1.f1),.slice A114_3 ((rd_T50 l1 x7_2).f2).length c114_3]] (by rfl) rfl rfl ml_ ?_
 with_reducible refine (patch_same.calls kj18 ((rd_T50 l0 x6_1).f0) ((rd_T50 l0 x6_1).f1.f0) ((rd_T50 l0 x6_1).f1.f1) _ _ ((rd_T50 l0 x6_1).f2) ((rd_T50 l1 x7_2).f0) ((rd_T50 l1 x7_2).f1.f0) ((rd_T50 l1 x7_2).f1.f1) _ _ ((rd_T50 l1 x7_2).f2) false _ ?side1 ?side2 ?side3 ?side4 A26.out).mono ?_
 (case side1=>exact c0_)
 (case side2=>exact HC113_3.out)
 (case side3=>exact c0_)
 (case side4=>exact HC114_3.out)
 rintro e w54 ⟨rfl,hb⟩
 refine ⟨_,rfl,?_⟩
 have n0_:=Aside0.mk (Kd.S_below (xS_ HO_5) hb)
 have n1_:=Aside0.mk (below_step b0_ hb)
 clear HO_5
 clear HB
 have HO_5:=n0_
 have HB:=n1_
 clear n0_ n1_
 (try clear hb)
 (try clear hk)
 refine hK.out _ _ ⟨(cel_ HB hw113_0),(cel_ HB hw113_1),(cel_ HB hw113_2),(cel_ HB hw113_3),(cel_ HB hw114_0),(cel_ HB hw114_1),(cel_ HB hw114_2),(cel_ HB hw114_3)⟩ (fun hHeld=> ?_)
 clear hK K
 refine norm_ (a':=?_) ?_ ?_
 rotate_left
 {
 show Act.put _ (some 46) _=_
 simp only [Act.put,List.setIfInBounds_toArray,List.set_cons_zero,List.set_cons_succ,i64_w,i32_w]
 rfl
 }
 refine done_ (done_of HT_.out (by kernel_rfl)) ?_
 try go_wp2
 have n0_:=Aside0.mk (Kd.S_drew HO_5.out)
 have n1_:=Aside0.mk (below_drew1 HB.out)
 clear HO_5
 clear HB
 have HO_5:=n0_
 have HB:=n1_
 clear n0_ n1_
 have p122:0≤(x6_1:Int):=od_
 have q122:x6_1<(x5_2.length:Int):=od_
 obtain ⟨ad122,A122_0,c122_0,e122,hx122_0,hl122_0,hi122_0⟩:=at_L4 (Kd.S_reads' HO_5.out).2.2 x6_1 p122 q122
 obtain rfl:(⟨go14,0,none⟩:Addr)=ad122:=(by injection e122)
 obtain ⟨ce122,hce122,hMe122,hcc122⟩:=Kd.S_get HO_5.out [] x6_1 p122 (by first|exact q122|exact od_|(have e_:=(Kd.S_reads' HO_5.out).1;omega))
 obtain ⟨ve122_0,rfl,ge122_0⟩:=hMe122
 have hv122_0:=hcc122 0 _ rfl
 rw [Nat.add_zero,show ((Kd.slice 3 (Kd.int .i64))).sz=1 from rfl,Nat.mul_one] at hv122_0
 replace hv122_0:=Option.some.inj (hv122_0.symm.trans hx122_0)
 rw [hv122_0] at ge122_0
 have HL122_0:=Aside0.mk (show Kd.R (Kd.int .i64) 3 _ _ _ _ (rd_L4 x5_2 x6_1) from ge122_0)
 clear hv122_0 ge122_0
 have HX122_0:=Aside0.mk hx122_0
 clear hcc122 hce122
 (first|simp only [add_plain] at hx122_0|simp only [add_at] at hx122_0|simp only [Addr.add,Nat.zero_add] at hx122_0|skip)
 have HR122_0:=Aside0.mk hi122_0
 have HC122_0:=Aside0.mk hl122_0
 clear hi122_0 hl122_0
 replace p122:=eq_true p122
 replace q122:=eq_true q122
 have p123:0≤((ji43):Int):=od_
 have q123:(ji43)<(x5_2.length:Int):=od_
 obtain ⟨ad123,A123_0,c123_0,e123,hx123_0,hl123_0,hi123_0⟩:=at_L4 (Kd.S_reads' HO_5.out).2.2 (ji43) p123 q123
 obtain rfl:(⟨go14,0,none⟩:Addr)=ad123:=(by injection e123)
 obtain ⟨ce123,hce123,hMe123,hcc123⟩:=Kd.S_get HO_5.out [] (ji43) p123 (by first|exact q123|exact od_|(have e_:=(Kd.S_reads' HO_5.out).1;omega))
 obtain ⟨ve123_0,rfl,ge123_0⟩:=hMe123
 have hv123_0:=hcc123 0 _ rfl
 rw [Nat.add_zero,show ((Kd.slice 3 (Kd.int .i64))).sz=1 from rfl,Nat.mul_one] at hv123_0
 replace hv123_0:=Option.some.inj (hv123_0.symm.trans hx123_0)
 rw [hv123_0] at ge123_0
 have HL123_0:=Aside0.mk (show Kd.R (Kd.int .i64) 3 _ _ _ _ (rd_L4 x5_2 (ji43)) from ge123_0)
 clear hv123_0 ge123_0
 have HX123_0:=Aside0.mk hx123_0
 clear hcc123 hce123
 (first|simp only [add_plain] at hx123_0|simp only [add_at] at hx123_0|simp only [Addr.add,Nat.zero_add] at hx123_0|skip)
 have HR123_0:=Aside0.mk hi123_0
 have HC123_0:=Aside0.mk hl123_0
 clear hi123_0 hl123_0
 replace p123:=eq_true p123
 replace q123:=eq_true q123
 have p124:0≤(x7_2:Int):=od_
 have q124:x7_2<((rd_L4 x5_2 (ji43)).length:Int):=od_
 obtain ⟨ad124,e124,hx124_0⟩:=Kd.at_int (c1_ HR123_0) x7_2 p124 q124
 cases e124
 replace p124:=eq_true p124
 replace q124:=eq_true q124
 have p125:0≤(x6_1:Int):=od_
 have q125:x6_1<(x5_2.length:Int):=od_
 obtain ⟨ad125,A125_0,c125_0,e125,hx125_0,hl125_0,hi125_0⟩:=at_L4 (Kd.S_reads' HO_5.out).2.2 x6_1 p125 q125
 obtain rfl:(⟨go14,0,none⟩:Addr)=ad125:=(by injection e125)
 obtain ⟨ce125,hce125,hMe125,hcc125⟩:=Kd.S_get HO_5.out [] x6_1 p125 (by first|exact q125|exact od_|(have e_:=(Kd.S_reads' HO_5.out).1;omega))
 obtain ⟨ve125_0,rfl,ge125_0⟩:=hMe125
 have hv125_0:=hcc125 0 _ rfl
 rw [Nat.add_zero,show ((Kd.slice 3 (Kd.int .i64))).sz=1 from rfl,Nat.mul_one] at hv125_0
 replace hv125_0:=Option.some.inj (hv125_0.symm.trans hx125_0)
 rw [hv125_0] at ge125_0
 have HL125_0:=Aside0.mk (show Kd.R (Kd.int .i64) 3 _ _ _ _ (rd_L4 x5_2 x6_1) from ge125_0)
 clear hv125_0 ge125_0
 have HX125_0:=Aside0.mk hx125_0
 clear hcc125 hce125
 (first|simp only [add_plain] at hx125_0|simp only [add_at] at hx125_0|simp only [Addr.add,Nat.zero_add] at hx125_0|skip)
 have HR125_0:=Aside0.mk hi125_0
 have HC125_0:=Aside0.mk hl125_0
 clear hi125_0 hl125_0
 replace p125:=eq_true p125
 replace q125:=eq_true q125
 have ea_:=Option.some.inj (hx122_0.symm.trans hx125_0)
 injection ea_ with ea_ en_ ec_
 subst ea_
 subst ec_
 clear en_
 have p126:0≤((ji47):Int):=od_
 have q126:(ji47)<((rd_L4 x5_2 x6_1).length:Int):=od_
 obtain ⟨ad126,e126,hx126_0⟩:=Kd.at_int (c1_ HR125_0) (ji47) p126 q126
 cases e126
 replace p126:=eq_true p126
 replace q126:=eq_true q126
 have p52:0≤(x7_2:Int):=od_
 have q52:(x7_2:Int)<(((rd_L4 x5_2 x6_1).length:Int):Int):=od_
 obtain ⟨go52,co52,eo52,gb52,gl52,cl52,HG52⟩:=Kd.R_form HL122_0.out (by omega)
 (first|cases eo52|(injection eo52 with ea_ en_ ec_;(first|subst ea_|(injection ea_ with ea_;subst ea_));subst ec_;clear en_))
 have GB52:=Aside0.mk gb52
 have GG52:=Aside0.mk HG52
 clear gb52 gl52 HG52
 (first|simp only [add_plain] at hx126_0|skip)
 obtain ⟨hx52_0,hf52_0⟩:=Kd.R_celln 0 HL122_0.out (x7_2:Int) p52 q52
 replace p52:=eq_true p52
 replace q52:=eq_true q52
 have hq56:(x6_1:Int)<(x5_2.length:Int):=(by have h_:(x6_1:Int)<((x5_2.length:Int):Int):=od_;first|exact h_|(have e_:=(Kd.S_reads' HO_5.out).1;omega)|simpa only [List.length_set,List.length_set] using h_)
 obtain ⟨oki56,ce56,hcl56,hM56,hcc56,hok56,hbk56⟩:=Kd.S_borrow HO_5.out [] (x6_1:Int) od_ (by first|exact hq56|exact od_)
 obtain ⟨ve56_0,rfl,ge56_0⟩:=hM56
 have hv56:=hcc56 0 _ rfl
 rw [Nat.add_zero,show ((Kd.slice 3 (Kd.int .i64))).sz=1 from rfl,Nat.mul_one] at hv56
 replace hv56:=Option.some.inj (hv56.symm.trans HX122_0.out)
 subst hv56
 clear hcc56 hcl56
 replace ge56_0:=(show Kd.R (Kd.int .i64) 3 _ _ _ _ (rd_L4 x5_2 x6_1) from ge56_0)
 have HP56:=Kd.R_putg ge56_0 (x7_2:Int) ji50
 rw [←Ny127.out] at HP56
 have HS56:=hbk56 HP56.2 (fun k_ e_=>by injection e_ with e_;subst e_;exact ge56_0.1 _ rfl) (x':=y127) (Kd.M_row HP56.1)
 rw [←Ny129.out] at HS56
 have HQ56:=Aside0.mk HS56
 clear HP56 HS56 hbk56 hok56
 refine start_ (n:=24) (S:=fun w'=>w'.cell? ⟨go14,(x6_1).toNat,none⟩=some (.slice (some (⟨go52,0,none⟩:Addr)) (rd_L4 x5_2 x6_1).length c122_0)∧w'.cell? ⟨go14,((ji43)).toNat,none⟩=some (.slice (some ad124) (rd_L4 x5_2 (ji43)).length c123_0)∧w'.cell? (ad124.add (x7_2).toNat)=some (.int .i64 (rd (rd_L4 x5_2 (ji43)) x7_2))∧w'.cell? ⟨go14,(x6_1).toNat,none⟩=some (.slice (some (⟨go52,0,none⟩:Addr)) (rd_L4 x5_2 x6_1).length c122_0)∧w'.cell? ⟨go52,((ji47)).toNat,none⟩=some (.int .i64 (rd (rd_L4 x5_2 x6_1) (ji47)))) (ds:=[23]) #[false,false,false,false,false,false,false,false,false,false,false,false,false,false,false,false,false,false,false,false,false,false,false,false] (by kernel_rfl) rfl rfl ⟨hx122_0,hx123_0,hx124_0,hx125_0,hx126_0⟩ (fun hHeld=> ?_);refine with_tabW patch_lengths.tab11 patch_lengths.bits11 (fun HT_ HW_=> ?_)
 generalize w54.drew=w55 at HO_5 HB GG52 HL122_0 HL123_0 HL125_0 HQ56 HR122_0 HR123_0 HR125_0 HX122_0 HX123_0 HX125_0 hf52_0 hx122_0 hx123_0 hx124_0 hx125_0 hx126_0 hx52_0 hHeld⊢
 refine pA_ (i:=0) (N:=some 63) HT_ ?_
 refine pA_ (i:=1) (N:=some 64) HT_ ?_
 refine pA_ (i:=2) (N:=some 65) HT_ ?_
 refine pA_ (i:=4) (N:=some 67) HT_ ?_
 refine pA_ (i:=5) (N:=some 68) HT_ ?_
 refine pA_ (i:=6) (N:=some 69) HT_ ?_
 refine pA_ (i:=7) (N:=some 70) HT_ ?_
 refine pA_ (i:=8) (N:=some 71) HT_ ?_
 refine pA_ (i:=10) (N:=some 73) HT_ ?_
 refine pA_ (i:=13) (N:=some 76) HT_ ?_
 refine pA_ (i:=14) (N:=some 77) HT_ ?_
 refine pA_ (i:=15) (N:=some 78) HT_ ?_
 refine pA_ (i:=17) (N:=some 80) HT_ ?_
 refine pA_ (i:=18) (N:=some 81) HT_ ?_
 refine tA_ (i:=3) (N:=some 66) HT_ HW_ hHeld ?_
 refine tA_ (i:=9) (N:=some 72) HT_ HW_ hHeld ?_
 refine pA_ (i:=11) (N:=some 74) HT_ ?_
 refine tA_ (i:=12) (N:=some 75) HT_ HW_ hHeld ?_
 refine tA_ (i:=16) (N:=some 79) HT_ HW_ hHeld ?_
 refine pA_ (i:=19) (N:=some 82) HT_ ?_
 refine tA_ (i:=20) (N:=some 83) HT_ HW_ hHeld ?_
 refine pA_ (i:=21) (N:=some 84) HT_ ?_
 refine pA_ (i:=22) (N:=some 85) HT_ ?_
 refine last_ (i:=23) (N:=none) #[true,true,true,true,true,true,true,true,true,true,true,true,true,true,true,true,true,true,true,true,true,true,true,true] rfl rfl (one_of HT_.out (by kernel_rfl)) (by decide) (fun K hK=> ?_)
 refine skip_ (w1:=?_) (by rfl) rfl ?_ ?_
 rotate_left
 {
 go_simp
 rfl
 }
 refine hK.out _ _ ?_
 clear hK K
 refine done_ (done_of HT_.out (by kernel_rfl)) ?_
 try go_wp2
 (try simp only [←hl5_2])
 go_roundg kj18
 case measure=>have:=HK1.out;have:=HK2.out;have:=HJ18.out;omega
 case rel=>exact ⟨(y129),(wrap64 (x7_2 - 1)),r0_,H',⟨by have:=HK1.out;have:=HK2.out;have:=HJ18.out;omega⟩,⟨by (try simp only [hl5_2]);(with_reducible repeat (first|apply Kd.S_alloc|apply Kd.S_drewN|apply Kd.S_drew));exact HQ56.out⟩,⟨by repeat (first|(with_reducible first|exact HB.out|apply below_alloc|apply pw_below_drewN|apply below_drew1|refine below_set ?_ GB52.out)|exact HB.out)⟩⟩
 }
 {
 rw [if_neg c51] at H
 exact absurd H (by simp)
 }
 }
 {
 rw [if_neg c49] at H
 exact absurd H (by simp)
 }
 }
 {
 rw [if_neg c48] at H
 exact absurd H (by simp)
 }
 }
 {
 rw [if_neg c46] at H
 exact absurd H (by simp)
 }
 }
 {
 rw [if_neg c45] at H
 exact absurd H (by simp)
 }
 }
 {
 rw [if_neg c44] at H
 exact absurd H (by simp)
 }
 }
 {
 rw [if_neg c42] at H
 exact absurd H (by simp)
 }
 }
 }
 {
 rw [if_neg c25] at H
 exact absurd H (by simp)
 }
 }
 {
 rw [if_neg c24] at H
 exact absurd H (by simp)
 }
 }
 {
 rw [if_neg c23] at H
 exact absurd H (by simp)
 }
 }
 {
 rw [if_neg c22] at H
 exact absurd H (by simp)
 }
 }
 {
 replace c21:=Bool.eq_false_iff.mpr c21
 subst c21
 replace H:=fn_ H
 have H':=Aside0.mk H
 clear H
 go_wp2
 (try simp only [←hl5_2])
 go_roundg kj18
 case measure=>have:=HK1.out;have:=HK2.out;have:=HJ18.out;omega
 case rel=>exact ⟨(x5_2),(wrap64 (x6_1 - 1)),r0_,H',⟨by have:=HK1.out;have:=HK2.out;have:=HJ18.out;omega⟩,⟨by (try simp only [hl5_2]);(with_reducible repeat (first|apply Kd.S_alloc|apply Kd.S_drewN|apply Kd.S_drew));exact HO_5.out⟩,⟨b0_⟩⟩
 }
  )
  )
  )
  )
 }
 {
 rw [if_neg c13] at H
 exact absurd H (by simp)
 }
 }
 {
 rw [if_neg c12] at H
 exact absurd H (by simp)
 }
 }
 {
 rw [if_neg c11] at H
 exact absurd H (by simp)
 }
 }
 {
 rw [if_neg c10] at H
 exact absurd H (by simp)
 }
 }
 {
 rw [if_neg c8] at H
 have c8b0:decide (0≤x6_1)=false:=decide_eq_false c8
 clear c8
 obtain rfl:=Option.some.inj H
 go_wp2
 go_ret
 exact ⟨_,by first|rfl|(simp [errW_none,errW_some]<;>rfl)|(simp only [←hji3];first|rfl|(simp [errW_none,errW_some]<;>rfl))|(simp [*,errW_none,errW_some]<;>rfl),by (with_reducible repeat (first|apply Kd.S_alloc|apply Kd.S_drewN|apply Kd.S_drew));exact HO_5.out,b0_⟩
 }
  )
  )
 }
 {
 rw [if_neg c5] at H
 exact absurd H (by simp)
 }
 }
 {
 rw [if_neg c4] at H
 exact absurd H (by simp)
 }
end
end Go.Proofs.YtdlolaognnbhpaaDoor.Pr
