/- A part of the proof of laws of this seat: PatchBack, PatchDiff, PatchLeast, PatchMetric. Conditions: none of our own. -/
import Derived.Test.YtdlolaognnbhpaaDoorK11
namespace Go.Proofs.YtdlolaognnbhpaaDoor.Pr
open Go.RowKit Go.Proofs.YtdlolaognnbhpaaDoorW.PrintWords Go.Proofs.YtdlolaognnbhpaaDoorW.PrintLast Go.Proofs.YtdlolaognnbhpaaDoorW.PrintMore
noncomputable section
attribute [local go_sem] max2_int min2_int max_two min_two max_three min_three max_four min_four
set_option linter.unusedVariables false
set_option linter.unusedSimpArgs false
def patch_Apply.l0:Nat→List (S53)→List (S53)→Int→Int→Int→List (S50)→Option (Int×(List (S50))×Int)
 |0,_,_,_,_,_,_=>none
 |k+1,x1,x20,x21,x22,x239000,x239001=>if x22<x21 then (if 0≤x22 then (if x22<(x20.length:Int) then ((api_Field__v29_28000.f k ((rd_T53 x20 x22).f2)).bind fun t244=>(if t244=true then (some (0,([]:List (S50)),18)) else (patch_Apply.l0 k x1 x20 x21 (wrap64 (x22+1)) x239000 x239001))) else (none)) else (none)) else ((patch_result.f k x239001 x1).bind fun t245=>((patch_sized.f x239000 t245).bind fun bt248=>(some (bt248.1,bt248.2.1,bt248.2.2))))
def patch_Apply.f (k:Nat) (a0_0:Int) (l0_1:List (S50)) (l1:List (S53)):Option (Int×(List (S50))×Int):=(record_Valid.f k a0_0 l0_1).bind fun t240=>(if t240=true then ((patch_fits.f k l0_1 l1).bind fun t241=>(if t241=true then (patch_Apply.l0 k l1 l1 (l1.length:Int) 0 a0_0 l0_1) else (some (0,([]:List (S50)),13)))) else (some (0,([]:List (S50)),1)))
def patch_Apply.T11:Bool×List (List Nat×List Nat):=(true,[([],[]),([0],[0]),([],[]),([2],[2]),([],[]),([3,4],[3,4]),([1,5,5],[1,5]),([6],[6]),([6],[6]),([7,6,0,1,2,3,4,5,6,7,8],[7]),([8,9,0,1,2,3,4,5,6,7,8,9],[8])])
def patch_Apply.B11:List Nat:=[0,1,0,4,0,28,63,127,127,511,1023]
theorem patch_Apply.tab11:rtab .any (opsOf Tryd.f14 11)=patch_Apply.T11:=by kernel_rfl
theorem patch_Apply.bits11:waitsOk patch_Apply.T11.2 patch_Apply.B11=true:=by kernel_rfl
set_option maxHeartbeats 8000000 in
set_option maxRecDepth 100000 in
theorem patch_Apply.calls (k:Nat) (a0_0:Int) (A0_1:Option Addr) (c0_1:Nat) (l0_1:List (S50)) (A1:Option Addr) (c1:Nat) (l1:List (S53)) (r1:Int) (r2:List (S50)) (r3:Int) (w:World) (hT:PTabs w) (hr0_1:Kd.C k50 w A0_1 l0_1.length l0_1) (hc0_1:l0_1.length≤c0_1) (hr1:Kd.C k53 w A1 l1.length l1) (hc1:l1.length≤c1) (h:patch_Apply.f k a0_0 l0_1 l1=some (r1,r2,r3)):
 Calls Tryd.prog 14 #[.agg #[.int .i64 a0_0,.slice A0_1 l0_1.length c0_1],.slice A1 l1.length c1] w fun e w'=>∃ v1_:Value,e= .returned (.tuple #[.agg #[.int .i64 r1,v1_],.int .i64 r3])∧Kd.V k50 50 w' w.heap.size (fun k_=>(w.heap.size≤k_)) v1_ r2∧Below w.heap.size w w':=by
 have hu24:=Tryd.underlying24
 have hu53:=Tryd.underlying53
 have HR0_1:=Aside0.mk hr0_1
 have HC0_1:=Aside0.mk hc0_1
 clear hr0_1 hc0_1
 have HR1:=Aside0.mk hr1
 have HC1:=Aside0.mk hc1
 clear hr1 hc1
 have HB:=Aside0.mk (Below.refl w.heap.size w)
 have HT:=Aside0.mk hT
 clear hT
 have H:((record_Valid.f k a0_0 l0_1).bind fun t240=>(if t240=true then ((patch_fits.f k l0_1 l1).bind fun t241=>(if t241=true then (patch_Apply.l0 k l1 l1 (l1.length:Int) 0 a0_0 l0_1) else (some (0,([]:List (S50)),13)))) else (some (0,([]:List (S50)),1))))=some (r1,r2,r3):=h
 clear h
 obtain ⟨t240,A3,H⟩:=ob_ H
 by_cases c4:t240=true
 {
 subst c4
 replace H:=tp_ H
 obtain ⟨t241,A5,H⟩:=ob_ H
 by_cases c6:t241=true
 {
 subst c6
 replace H:=tp_ H
 have H':=Aside0.mk H
 clear H
 go_enter Tryd.func14,Tryd.ntmps14
 go_wp2_with (first|((with_reducible refine gate_dst (N:=2) rfl ?_);refine bx_ (N:=2) (cs:=#[.int .i64 a0_0,.slice A0_1 l0_1.length c0_1]) (t:=24) ?_;intro gb238 hg w7 hbox hb;have n_:=as4_ (below_step b0_ hb) (hbox) ((g0_ hg b0_:w.heap.size≤gb238)) ((g0_ hg b0_:w.heap.size≤gb238));clear HB;obtain ⟨HB,BK238,GW238,GE238⟩:=n_;clear hb hbox hg)|((with_reducible refine gate_dst (N:=4) rfl ?_);refine bx_ (N:=4) (cs:=#[.int .i64 0,.slice none 0 0]) (t:=24) ?_;intro gb239 hg w8 hbox hb;have n_:=as7_ (bb_ BK238 hb) (below_step b0_ hb) (hbox) ((g0_ hg b0_:w.heap.size≤gb239)) ((g0_ hg b0_:w.heap.size≤gb239)) ((g1_ hg k0_:gb238≠gb239)) ((g2_ hg k0_:gb239≠gb238));clear BK238 HB;obtain ⟨BK238,HB,BK239,GW239,GE239,NB238_239,NB239_238⟩:=n_;clear hb hbox hg;have hnb9:=NB238_239.out;have hnc9:=NB239_238.out;obtain ⟨hcz10_0,hcz10_1,hfz10_0,hfz10_1⟩:=ce2_ BK238)|((with_reducible refine gate_callee (f:=23) rfl ?_);refine gl_ (some 10) Tryd.func23 #[.agg #[.int .i64 a0_0,.slice A0_1 l0_1.length c0_1]] ?_;(with_reducible refine (record_Valid.calls k a0_0 _ _ l0_1 true _ ?side3 ?side1 ?side2 A3.out).mono ?_);(case side1=>exact c0_);(case side2=>exact HC0_1.out);(case side3=>exact PTabs.step HT.out b0_);rintro e w11 ⟨rfl,hb⟩;refine ⟨_,rfl,?_⟩;have n_:=as3_ (bb_ BK238 hb) (bb_ BK239 hb) (below_step b0_ hb);clear BK238 BK239 HB;obtain ⟨BK238,BK239,HB⟩:=n_;(try clear hb);(try clear hk);obtain ⟨hcz12_0,hcz12_1,hfz12_0,hfz12_1⟩:=ce2_ BK238)|((with_reducible refine gate_callee (f:=27) rfl ?_);refine gl_ (some 17) Tryd.func27 #[.slice A0_1 l0_1.length c0_1,.slice A1 l1.length c1] ?_;(with_reducible refine (patch_fits.calls k _ _ l0_1 _ _ l1 true _ ?side1 ?side2 ?side3 ?side4 A5.out).mono ?_);(case side1=>exact c0_);(case side2=>exact HC0_1.out);(case side3=>exact c0_);(case side4=>exact HC1.out);rintro e w13 ⟨rfl,hb⟩;refine ⟨_,rfl,?_⟩;have n_:=as3_ (bb_ BK238 hb) (bb_ BK239 hb) (below_step b0_ hb);clear BK238 BK239 HB;obtain ⟨BK238,BK239,HB⟩:=n_;(try clear hb);(try clear hk)))
 go_loopg [22] k (fun kq v22 w'=>∃ (x22_1:Int) (x240000_1:Int),v22= .int .i64 x22_1∧Aside0 (patch_Apply.l0 kq l1 l1 (l1.length:Int) x22_1 a0_0 l0_1=some (r1,r2,r3))∧Aside0 (kq≤k)∧Aside0 (w'.heap[gb238]?=some (.cells #[.int .i64 a0_0,(.slice A0_1 l0_1.length c0_1)] 24 (0,0)))∧Aside0 (w'.heap[gb239]?=some (.cells #[.int .i64 x240000_1,(.slice none 0 0)] 24 (0,0)))∧Aside0 (Below w.heap.size w w'))
 case atStart=>exact ⟨(0),(0),r0_,H',⟨Nat.le_refl _⟩,⟨k0_⟩,⟨k0_⟩,⟨b0_⟩⟩
 case round=>
  (
 clear H'
 try clear c1
 try clear c2
 try clear p2
 try clear c4
 try clear c6
 try clear c9
 try clear hcz10_0
 try clear hcz10_1
 try clear hcz12_0
 try clear hcz12_1
 try clear hfz10_0
 try clear hfz10_1
 try clear hfz12_0
 try clear hfz12_1
 obtain ⟨x22_1,x240000_1,rfl,HA,HK1,BK238,BK239,HB⟩:=hrel
 cases gk with
 |zero=>exact absurd HA.out (by simp [patch_Apply.l0])
 |succ k1=>
  (
 have H:=HA.out
 clear HA
 simp only [patch_Apply.l0] at H
 by_cases c14:x22_1<(l1.length:Int)
 {
 rw [if_pos c14] at H
 have c14b0:decide (x22_1<(l1.length:Int))=true:=decide_eq_true c14
 clear c14
 by_cases c15:0≤x22_1
 {
 rw [if_pos c15] at H
 have c15b0:decide (0≤x22_1)=true:=decide_eq_true c15
 clear c15
 by_cases c16:x22_1<(l1.length:Int)
 {
 rw [if_pos c16] at H
 have c16b0:decide (x22_1<(l1.length:Int))=true:=decide_eq_true c16
 clear c16
 obtain ⟨t244,A17,H⟩:=ob_ H
 by_cases c18:t244=true
 {
 subst c18
 replace H:=tp_ H
 simp only [Option.some.injEq,Prod.mk.injEq] at H
 obtain ⟨rfl,rfl,rfl⟩:=H
 have p242:0≤(x22_1:Int):=od_
 have q242:x22_1<(l1.length:Int):=od_
 obtain ⟨ad242,A242_1,c242_1,A242_2,c242_2,e242,hx242_0,hx242_1,hx242_2,hl242_1,hi242_1,hl242_2,hi242_2⟩:=at_T53 HR1.out x22_1 p242 q242
 cases e242
 replace hx242_0:=cel_ HB hx242_0
 replace hx242_1:=cel_ HB hx242_1
 replace hx242_2:=cel_ HB hx242_2
 have HR242_1:=Aside0.mk hi242_1
 have HC242_1:=Aside0.mk hl242_1
 clear hi242_1 hl242_1
 have HR242_2:=Aside0.mk hi242_2
 have HC242_2:=Aside0.mk hl242_2
 clear hi242_2 hl242_2
 replace p242:=eq_true p242
 replace q242:=eq_true q242
 go_wp2_with (first|((with_reducible refine gate_dst (N:=7) rfl ?_);refine bx_ (N:=7) (cs:=#[.int .i64 0,.slice none 0 0,.slice none 0 0]) (t:=53) ?_;intro gb243 hg w19 hbox hb;have n_:=as10_ (bb_ BK238 hb) (bb_ BK239 hb) (below_step b0_ hb) (hbox) ((g0_ hg b0_:w.heap.size≤gb243)) ((g0_ hg b0_:w.heap.size≤gb243)) ((g1_ hg k0_:gb238≠gb243)) ((g2_ hg k0_:gb243≠gb238)) ((g1_ hg k0_:gb239≠gb243)) ((g2_ hg k0_:gb243≠gb239));clear BK238 BK239 HB;obtain ⟨BK238,BK239,HB,BK243,GW243,GE243,NB238_243,NB243_238,NB239_243,NB243_239⟩:=n_;clear hb hbox hg;have hnb20:=NB243_238.out;have hnc20:=NB238_243.out;have hnb21:=NB243_239.out;have hnc21:=NB239_243.out;obtain ⟨hcz22_0,hcz22_1,hcz22_2,hfz22_0,hfz22_1,hfz22_2⟩:=ce3_ BK243)|((with_reducible refine gate_callee (f:=28) rfl ?_);refine gl_ (some 28) Tryd.func28 #[.slice A242_2 ((rd_T53 l1 x22_1).f2).length c242_2,.func (.func 29) #[] #[]] ?_;(with_reducible refine (api_Field__v29_28000.calls k1 _ _ ((rd_T53 l1 x22_1).f2) true _ ?side3 ?side1 ?side2 A17.out).mono ?_);(case side1=>exact Kd.C_below HR242_2.out b0_);(case side2=>exact HC242_2.out);(case side3=>exact PTabs.step HT.out b0_);rintro e w23 ⟨rfl,hb⟩;refine ⟨_,rfl,?_⟩;have n_:=as4_ (bb_ BK238 hb) (bb_ BK239 hb) (blk_below (g:=gb243) (o:= .cells #[.int .i64 ((rd_T53 l1 x22_1).f0),.slice A242_1 ((rd_T53 l1 x22_1).f1).length c242_1,.slice A242_2 ((rd_T53 l1 x22_1).f2).length c242_2] 53 (0,0)) (by (with_reducible repeat (first|refine blk_drewN ?_ _|refine blk_drew ?_|refine blk_alloc ?_ _));refine blk_put (cs:=#[.int .i64 ((rd_T53 l1 x22_1).f0),.slice A242_1 ((rd_T53 l1 x22_1).f1).length c242_1,.slice none 0 0]) ?_ 2 _ rfl;(with_reducible repeat (first|refine blk_drewN ?_ _|refine blk_drew ?_|refine blk_alloc ?_ _));refine blk_put (cs:=#[.int .i64 ((rd_T53 l1 x22_1).f0),.slice none 0 0,.slice none 0 0]) ?_ 1 _ rfl;(with_reducible repeat (first|refine blk_drewN ?_ _|refine blk_drew ?_|refine blk_alloc ?_ _));refine blk_put (cs:=#[.int .i64 0,.slice none 0 0,.slice none 0 0]) ?_ 0 _ rfl;(with_reducible repeat (first|refine blk_drewN ?_ _|refine blk_drew ?_|refine blk_alloc ?_ _));exact BK243.out) hb) (below_step b0_ hb);clear BK238 BK239 BK243 HB;obtain ⟨BK238,BK239,BK243,HB⟩:=n_;(try clear hb);(try clear hk);have hnb24:=NB239_238.out;have hnc24:=NB238_239.out;obtain ⟨hcz25_0,hcz25_1,hfz25_0,hfz25_1⟩:=ce2_ BK239))
 refine bodyPost_ret (results_ct rfl _ _ gb239 24 #[.int .i64 0,.slice none 0 0] (0,0) _ rfl (by (with_reducible repeat (first|refine blk_drewN ?_ _|refine blk_drew ?_|refine blk_alloc ?_ _));refine blk_put (cs:=#[.int .i64 0,.slice none 0 0]) ?_ 1 _ rfl;(with_reducible repeat (first|refine blk_drewN ?_ _|refine blk_drew ?_|refine blk_alloc ?_ _));refine blk_put (cs:=#[.int .i64 x240000_1,.slice none 0 0]) ?_ 0 _ rfl;(with_reducible repeat (first|refine blk_drewN ?_ _|refine blk_drew ?_|refine blk_alloc ?_ _));exact BK239.out) Tryd.underlying24 rfl (by kernel_rfl)) rfl ?_
 exact ⟨_,r1_,(by first|exact Kd.V_nil _ _ _ _ _|exact Kd.N_V (by first|exact Kd.S_nil _ _ _ _ _|exact Kd.N_nil _ _ _ _ _|exact Kd.V_nil _ _ _ _ _|exact Kd.Q_nil _ _ _ _ _|exact Kd.R_nil _ _ _ _ _)),b0_⟩
 }
 {
 replace c18:=Bool.eq_false_iff.mpr c18
 subst c18
 replace H:=fn_ H
 have H':=Aside0.mk H
 clear H
 have p242:0≤(x22_1:Int):=od_
 have q242:x22_1<(l1.length:Int):=od_
 obtain ⟨ad242,A242_1,c242_1,A242_2,c242_2,e242,hx242_0,hx242_1,hx242_2,hl242_1,hi242_1,hl242_2,hi242_2⟩:=at_T53 HR1.out x22_1 p242 q242
 cases e242
 replace hx242_0:=cel_ HB hx242_0
 replace hx242_1:=cel_ HB hx242_1
 replace hx242_2:=cel_ HB hx242_2
 have HR242_1:=Aside0.mk hi242_1
 have HC242_1:=Aside0.mk hl242_1
 clear hi242_1 hl242_1
 have HR242_2:=Aside0.mk hi242_2
 have HC242_2:=Aside0.mk hl242_2
 clear hi242_2 hl242_2
 replace p242:=eq_true p242
 replace q242:=eq_true q242
 go_wp2_with (first|((with_reducible refine gate_dst (N:=7) rfl ?_);refine bx_ (N:=7) (cs:=#[.int .i64 0,.slice none 0 0,.slice none 0 0]) (t:=53) ?_;intro gb243 hg w26 hbox hb;have n_:=as10_ (bb_ BK238 hb) (bb_ BK239 hb) (below_step b0_ hb) (hbox) ((g0_ hg b0_:w.heap.size≤gb243)) ((g0_ hg b0_:w.heap.size≤gb243)) ((g1_ hg k0_:gb238≠gb243)) ((g2_ hg k0_:gb243≠gb238)) ((g1_ hg k0_:gb239≠gb243)) ((g2_ hg k0_:gb243≠gb239));clear BK238 BK239 HB;obtain ⟨BK238,BK239,HB,BK243,GW243,GE243,NB238_243,NB243_238,NB239_243,NB243_239⟩:=n_;clear hb hbox hg;have hnb27:=NB243_238.out;have hnc27:=NB238_243.out;have hnb28:=NB243_239.out;have hnc28:=NB239_243.out;obtain ⟨hcz29_0,hcz29_1,hcz29_2,hfz29_0,hfz29_1,hfz29_2⟩:=ce3_ BK243)|((with_reducible refine gate_callee (f:=28) rfl ?_);refine gl_ (some 28) Tryd.func28 #[.slice A242_2 ((rd_T53 l1 x22_1).f2).length c242_2,.func (.func 29) #[] #[]] ?_;(with_reducible refine (api_Field__v29_28000.calls k1 _ _ ((rd_T53 l1 x22_1).f2) false _ ?side3 ?side1 ?side2 A17.out).mono ?_);(case side1=>exact Kd.C_below HR242_2.out b0_);(case side2=>exact HC242_2.out);(case side3=>exact PTabs.step HT.out b0_);rintro e w30 ⟨rfl,hb⟩;refine ⟨_,rfl,?_⟩;have n_:=as4_ (bb_ BK238 hb) (bb_ BK239 hb) (blk_below (g:=gb243) (o:= .cells #[.int .i64 ((rd_T53 l1 x22_1).f0),.slice A242_1 ((rd_T53 l1 x22_1).f1).length c242_1,.slice A242_2 ((rd_T53 l1 x22_1).f2).length c242_2] 53 (0,0)) (by (with_reducible repeat (first|refine blk_drewN ?_ _|refine blk_drew ?_|refine blk_alloc ?_ _));refine blk_put (cs:=#[.int .i64 ((rd_T53 l1 x22_1).f0),.slice A242_1 ((rd_T53 l1 x22_1).f1).length c242_1,.slice none 0 0]) ?_ 2 _ rfl;(with_reducible repeat (first|refine blk_drewN ?_ _|refine blk_drew ?_|refine blk_alloc ?_ _));refine blk_put (cs:=#[.int .i64 ((rd_T53 l1 x22_1).f0),.slice none 0 0,.slice none 0 0]) ?_ 1 _ rfl;(with_reducible repeat (first|refine blk_drewN ?_ _|refine blk_drew ?_|refine blk_alloc ?_ _));refine blk_put (cs:=#[.int .i64 0,.slice none 0 0,.slice none 0 0]) ?_ 0 _ rfl;(with_reducible repeat (first|refine blk_drewN ?_ _|refine blk_drew ?_|refine blk_alloc ?_ _));exact BK243.out) hb) (below_step b0_ hb);clear BK238 BK239 BK243 HB;obtain ⟨BK238,BK239,BK243,HB⟩:=n_;(try clear hb);(try clear hk)))
 go_roundg k1
 case measure=>have:=HK1.out;omega
 case rel=>exact ⟨(wrap64 (x22_1+1)),(x240000_1),r0_,H',⟨by have:=HK1.out;omega⟩,⟨k0_⟩,⟨k0_⟩,⟨b0_⟩⟩
 }
 }
 {
 rw [if_neg c16] at H
 exact absurd H (by simp)
 }
 }
 {
 rw [if_neg c15] at H
 exact absurd H (by simp)
 }
 }
 {
 rw [if_neg c14] at H
 have c14b0:decide (x22_1<(l1.length:Int))=false:=decide_eq_false c14
 clear c14
 obtain ⟨t245,A31,H⟩:=ob_ H
 replace H:=Option.bind_eq_some_iff.mp H
 obtain ⟨⟨t248,t249,t252⟩,A320,H⟩:=H
 replace H:(some (t248,t249,t252))=some (r1,r2,r3):=H
 have A32:=Aside0.mk A320
 clear A320
 simp only [Option.some.injEq,Prod.mk.injEq] at H
 obtain ⟨rfl,rfl,rfl⟩:=H
 try go_wp2
 have n0_:=Aside0.mk (blk_drew BK238.out)
 have n1_:=Aside0.mk (blk_drew BK239.out)
 have n2_:=Aside0.mk (below_drew1 HB.out)
 clear BK238
 clear BK239
 clear HB
 have BK238:=n0_
 have BK239:=n1_
 have HB:=n2_
 clear n0_ n1_ n2_
 refine start_ (n:=11) (S:=fun w'=>w'.cell? ⟨gb238,0,none⟩=some (.int .i64 a0_0)∧w'.cell? ⟨gb238,1,none⟩=some (.slice A0_1 l0_1.length c0_1)) (ds:=[]) #[false,false,false,false,false,false,false,false,false,false,false] (by kernel_rfl) rfl rfl ⟨(blk_cell BK238.out 0).trans rfl,(blk_cell BK238.out 1).trans rfl⟩ (fun hHeld=> ?_);refine with_tabW patch_Apply.tab11 patch_Apply.bits11 (fun HT_ HW_=> ?_)
 generalize wr.drew=w33 at BK238 BK239 HB hHeld⊢
 refine pA_ (i:=0) (N:=some 31) HT_ ?_
 refine pA_ (i:=2) (N:=some 33) HT_ ?_
 refine pA_ (i:=4) (N:=some 35) HT_ ?_
 refine tA_ (i:=1) (N:=some 32) HT_ HW_ hHeld ?_
 refine tA_ (i:=3) (N:=some 34) HT_ HW_ hHeld ?_
 refine one_ (i:=5) (N:=some 36) #[true,true,true,true,true,true,false,false,false,false,false] rfl rfl (one_of HT_.out (by kernel_rfl)) (by decide) (fun K hK=> ?_)
 refine goes_ Tryd.func32 (by kernel_rfl) rfl #[.slice A0_1 l0_1.length c0_1,.slice A1 l1.length c1] (by rfl) rfl rfl ml_ ?_
 with_reducible refine (patch_result.calls k1 _ _ l0_1 _ _ l1 t245 _ ?side1 ?side2 ?side3 ?side4 A31.out).mono ?_
 (case side1=>exact c0_)
 (case side2=>exact HC0_1.out)
 (case side3=>exact c0_)
 (case side4=>exact HC1.out)
 rintro e w34 ⟨v246,rfl,ho0,hb⟩
 refine ⟨_,rfl,?_⟩
 have n0_:=Aside0.mk (Kd.N_lower (Kd.N_mono (ok':=fun k_=>(w.heap.size≤k_)∧k_≠gb238∧k_≠gb239) ho0 (fun k_ hk_=>⟨(Nat.le_trans (below_size b0_) hk_),(Kd.freshB (g:=gb238) (o:= .cells #[.int .i64 a0_0,.slice A0_1 l0_1.length c0_1] 24 (0,0)) k0_ k_ hk_),(Kd.freshB (g:=gb239) (o:= .cells #[.int .i64 x240000_1,.slice none 0 0] 24 (0,0)) k0_ k_ hk_)⟩)) (below_size b0_))
 have n1_:=Aside0.mk (bb_ BK238 hb)
 have n2_:=Aside0.mk (bb_ BK239 hb)
 have n3_:=Aside0.mk (below_step b0_ hb)
 clear BK238
 clear BK239
 clear HB
 have HO247:=n0_
 have BK238:=n1_
 have BK239:=n2_
 have HB:=n3_
 clear n0_ n1_ n2_ n3_
 (try clear hb)
 (try clear hk)
 (try clear ho0)
 obtain ⟨Ao35,co35,eo35⟩:=Kd.N_slice HO247.out
 (first|subst eo35|(injection eo35 with f1_ f2_ f3_;have f4_:=f1_.symm;have f5_:=f3_.symm;clear f1_ f2_ f3_;subst f4_;subst f5_))
 refine hK.out _ _ ⟨(blk_cell BK238.out 0).trans rfl,(blk_cell BK238.out 1).trans rfl⟩ (fun hHeld=> ?_)
 clear hK K
 refine norm_ (a':=?_) ?_ ?_
 rotate_left
 {
 show Act.put _ (some 36) _=_
 simp only [Act.put,List.setIfInBounds_toArray,List.set_cons_zero,List.set_cons_succ,i64_w,i32_w]
 rfl
 }
 refine one_ (i:=6) (N:=some 37) #[true,true,true,true,true,true,true,false,false,false,false] rfl rfl (one_of HT_.out (by kernel_rfl)) (by decide) (fun K hK=> ?_)
 refine goes_ Tryd.func31 (by kernel_rfl) rfl #[.int .i64 a0_0,.slice Ao35 t245.length co35] (by rfl) rfl rfl ml_ ?_
 with_reducible refine (patch_sized.calls a0_0 (fun k_=>((w.heap.size≤k_)∧(k_≠gb238∧k_≠gb239))) _ _ t245 t248 t249 t252 _ ?side1 A32.out).mono ?_
 (case side1=>exact Kd.N_V (HO247.out))
 rintro e w36 ⟨v250,rfl,ho0,hb⟩
 refine ⟨_,rfl,?_⟩
 have n0_:=Aside0.mk (Kd.N_below (xN_ HO247) hb)
 have n1_:=Aside0.mk (Kd.V_lower (Kd.V_mono (ok':=fun k_=>(w.heap.size≤k_)∧k_≠gb238∧k_≠gb239) ho0 (fun k_ hk_=>⟨Or.elim hk_ (fun hs_=>hs_.1) (fun hn_=>(Nat.le_trans (below_size b0_) hn_)),Or.elim hk_ (fun hs_=>hs_.2.1) (fun hn_=>(Kd.freshB (g:=gb238) (o:= .cells #[.int .i64 a0_0,.slice A0_1 l0_1.length c0_1] 24 (0,0)) k0_ k_ hn_)),Or.elim hk_ (fun hs_=>hs_.2.2) (fun hn_=>(Kd.freshB (g:=gb239) (o:= .cells #[.int .i64 x240000_1,.slice none 0 0] 24 (0,0)) k0_ k_ hn_))⟩)) (below_size b0_))
 have n2_:=Aside0.mk (bb_ BK238 hb)
 have n3_:=Aside0.mk (bb_ BK239 hb)
 have n4_:=Aside0.mk (below_step b0_ hb)
 clear HO247
 clear BK238
 clear BK239
 clear HB
 have HO247:=n0_
 have HO251:=n1_
 have BK238:=n2_
 have BK239:=n3_
 have HB:=n4_
 clear n0_ n1_ n2_ n3_ n4_
 (try clear hb)
 (try clear hk)
 (try clear ho0)
 obtain ⟨Ao38,co38,eo38⟩:=Kd.V_slice HO251.out
 (first|subst eo38|(injection eo38 with f1_ f2_ f3_;have f4_:=f1_.symm;have f5_:=f3_.symm;clear f1_ f2_ f3_;subst f4_;subst f5_))
 refine hK.out _ _ ⟨(blk_cell BK238.out 0).trans rfl,(blk_cell BK238.out 1).trans rfl⟩ (fun hHeld=> ?_)
 clear hK K
 refine norm_ (a':=?_) ?_ ?_
 rotate_left
 {
 show Act.put _ (some 37) _=_
 simp only [Act.put,List.setIfInBounds_toArray,List.set_cons_zero,List.set_cons_succ,i64_w,i32_w]
 rfl
 }
 refine pA_ (i:=7) (N:=some 38) HT_ ?_
 refine pA_ (i:=8) (N:=some 39) HT_ ?_
 refine one_ (i:=9) (N:=none) #[true,true,true,true,true,true,true,true,true,true,false] rfl rfl (one_of HT_.out (by kernel_rfl)) (by decide) (fun K hK=> ?_)
 have hs37:w36.cell? ⟨gb239,0,none⟩=some (.int .i64 x240000_1):=(blk_cell BK239.out 0).trans rfl
 have hfs37:=blk_frozen BK239.out 0
 have hns37_0:=NB238_239.out
 have hms37_0:=NB239_238.out
 have hs39:w36.cell? ⟨gb239,1,none⟩=some (.slice none 0 0):=(blk_cell BK239.out 1).trans rfl
 have hfs39:=blk_frozen BK239.out 1
 have hns39_0:=NB238_239.out
 have hms39_0:=NB239_238.out
 refine skip_ (w1:=?_) (by rfl) rfl ?_ ?_
 rotate_left
 {
 go_simp
 rfl
 }
 refine hK.out _ _ ⟨((cell_far (p:=⟨gb239,_,none⟩) NB238_239.out _).trans (((cell_far (p:=⟨gb239,_,none⟩) NB238_239.out _).trans (hHeld.1)))),((cell_far (p:=⟨gb239,_,none⟩) NB238_239.out _).trans (((cell_far (p:=⟨gb239,_,none⟩) NB238_239.out _).trans (hHeld.2))))⟩ (fun hHeld=> ?_)
 clear hK K
 refine pA_ (i:=10) (N:=some 5) HT_ ?_
 refine done_ (done_of HT_.out (by kernel_rfl)) ?_
 try go_wp2
 refine bodyPost_ret (results_ct rfl _ _ gb239 24 #[.int .i64 t248,.slice Ao38 t249.length co38] (0,0) _ rfl (by (with_reducible repeat (first|refine blk_drewN ?_ _|refine blk_drew ?_|refine blk_alloc ?_ _));refine blk_put (cs:=#[.int .i64 t248,.slice none 0 0]) ?_ 1 _ rfl;(with_reducible repeat (first|refine blk_drewN ?_ _|refine blk_drew ?_|refine blk_alloc ?_ _));refine blk_put (cs:=#[.int .i64 x240000_1,.slice none 0 0]) ?_ 0 _ rfl;(with_reducible repeat (first|refine blk_drewN ?_ _|refine blk_drew ?_|refine blk_alloc ?_ _));exact BK239.out) Tryd.underlying24 rfl (by kernel_rfl)) rfl ?_
 exact ⟨_,r1_,by (with_reducible repeat (first|apply Kd.V_alloc|apply Kd.V_drewN|apply Kd.V_drew));exact Kd.V_mono (Kd.V_far (p:=⟨gb239,1,none⟩) (Kd.V_far (p:=⟨gb239,0,none⟩) (Kd.V_mono HO251.out (fun k_ hk=>(⟨hk,hk.2.2⟩:_∧k_≠gb239))) (fun _ hk=>hk.2) (.int .i64 t248)) (fun _ hk=>hk.2) (.slice Ao38 t249.length co38)) (fun _ hk=>hk.1.1),b0_⟩
 }
  )
  )
 }
 {
 replace c6:=Bool.eq_false_iff.mpr c6
 subst c6
 replace H:=fn_ H
 simp only [Option.some.injEq,Prod.mk.injEq] at H
 obtain ⟨rfl,rfl,rfl⟩:=H
 go_enter Tryd.func14,Tryd.ntmps14
 go_wp2_with (first|((with_reducible refine gate_dst (N:=2) rfl ?_);refine bx_ (N:=2) (cs:=#[.int .i64 a0_0,.slice A0_1 l0_1.length c0_1]) (t:=24) ?_;intro gb238 hg w40 hbox hb;have n_:=as4_ (below_step b0_ hb) (hbox) ((g0_ hg b0_:w.heap.size≤gb238)) ((g0_ hg b0_:w.heap.size≤gb238));clear HB;obtain ⟨HB,BK238,GW238,GE238⟩:=n_;clear hb hbox hg)|((with_reducible refine gate_dst (N:=4) rfl ?_);refine bx_ (N:=4) (cs:=#[.int .i64 0,.slice none 0 0]) (t:=24) ?_;intro gb239 hg w41 hbox hb;have n_:=as7_ (bb_ BK238 hb) (below_step b0_ hb) (hbox) ((g0_ hg b0_:w.heap.size≤gb239)) ((g0_ hg b0_:w.heap.size≤gb239)) ((g1_ hg k0_:gb238≠gb239)) ((g2_ hg k0_:gb239≠gb238));clear BK238 HB;obtain ⟨BK238,HB,BK239,GW239,GE239,NB238_239,NB239_238⟩:=n_;clear hb hbox hg;have hnb42:=NB238_239.out;have hnc42:=NB239_238.out;obtain ⟨hcz43_0,hcz43_1,hfz43_0,hfz43_1⟩:=ce2_ BK238)|((with_reducible refine gate_callee (f:=23) rfl ?_);refine gl_ (some 10) Tryd.func23 #[.agg #[.int .i64 a0_0,.slice A0_1 l0_1.length c0_1]] ?_;(with_reducible refine (record_Valid.calls k a0_0 _ _ l0_1 true _ ?side3 ?side1 ?side2 A3.out).mono ?_);(case side1=>exact c0_);(case side2=>exact HC0_1.out);(case side3=>exact PTabs.step HT.out b0_);rintro e w44 ⟨rfl,hb⟩;refine ⟨_,rfl,?_⟩;have n_:=as3_ (bb_ BK238 hb) (bb_ BK239 hb) (below_step b0_ hb);clear BK238 BK239 HB;obtain ⟨BK238,BK239,HB⟩:=n_;(try clear hb);(try clear hk);obtain ⟨hcz45_0,hcz45_1,hfz45_0,hfz45_1⟩:=ce2_ BK238)|((with_reducible refine gate_callee (f:=27) rfl ?_);refine gl_ (some 17) Tryd.func27 #[.slice A0_1 l0_1.length c0_1,.slice A1 l1.length c1] ?_;(with_reducible refine (patch_fits.calls k _ _ l0_1 _ _ l1 false _ ?side1 ?side2 ?side3 ?side4 A5.out).mono ?_);(case side1=>exact c0_);(case side2=>exact HC0_1.out);(case side3=>exact c0_);(case side4=>exact HC1.out);rintro e w46 ⟨rfl,hb⟩;refine ⟨_,rfl,?_⟩;have n_:=as3_ (bb_ BK238 hb) (bb_ BK239 hb) (below_step b0_ hb);clear BK238 BK239 HB;obtain ⟨BK238,BK239,HB⟩:=n_;(try clear hb);(try clear hk);obtain ⟨hcz47_0,hcz47_1,hfz47_0,hfz47_1⟩:=ce2_ BK239))
 refine bodyPost_ret (results_ct rfl _ _ gb239 24 #[.int .i64 0,.slice none 0 0] (0,0) _ rfl (by (with_reducible repeat (first|refine blk_drewN ?_ _|refine blk_drew ?_|refine blk_alloc ?_ _));refine blk_put (cs:=#[.int .i64 0,.slice none 0 0]) ?_ 1 _ rfl;(with_reducible repeat (first|refine blk_drewN ?_ _|refine blk_drew ?_|refine blk_alloc ?_ _));refine blk_put (cs:=#[.int .i64 0,.slice none 0 0]) ?_ 0 _ rfl;(with_reducible repeat (first|refine blk_drewN ?_ _|refine blk_drew ?_|refine blk_alloc ?_ _));exact BK239.out) Tryd.underlying24 rfl (by kernel_rfl)) rfl ?_
 exact ⟨_,r1_,(by first|exact Kd.V_nil _ _ _ _ _|exact Kd.N_V (by first|exact Kd.S_nil _ _ _ _ _|exact Kd.N_nil _ _ _ _ _|exact Kd.V_nil _ _ _ _ _|exact Kd.Q_nil _ _ _ _ _|exact Kd.R_nil _ _ _ _ _)),b0_⟩
 }
 }
 {
 replace c4:=Bool.eq_false_iff.mpr c4
 subst c4
 replace H:=fn_ H
 simp only [Option.some.injEq,Prod.mk.injEq] at H
 obtain ⟨rfl,rfl,rfl⟩:=H
 go_enter Tryd.func14,Tryd.ntmps14
 go_wp2_with (first|((with_reducible refine gate_dst (N:=2) rfl ?_);refine bx_ (N:=2) (cs:=#[.int .i64 a0_0,.slice A0_1 l0_1.length c0_1]) (t:=24) ?_;intro gb238 hg w48 hbox hb;have n_:=as4_ (below_step b0_ hb) (hbox) ((g0_ hg b0_:w.heap.size≤gb238)) ((g0_ hg b0_:w.heap.size≤gb238));clear HB;obtain ⟨HB,BK238,GW238,GE238⟩:=n_;clear hb hbox hg)|((with_reducible refine gate_dst (N:=4) rfl ?_);refine bx_ (N:=4) (cs:=#[.int .i64 0,.slice none 0 0]) (t:=24) ?_;intro gb239 hg w49 hbox hb;have n_:=as7_ (bb_ BK238 hb) (below_step b0_ hb) (hbox) ((g0_ hg b0_:w.heap.size≤gb239)) ((g0_ hg b0_:w.heap.size≤gb239)) ((g1_ hg k0_:gb238≠gb239)) ((g2_ hg k0_:gb239≠gb238));clear BK238 HB;obtain ⟨BK238,HB,BK239,GW239,GE239,NB238_239,NB239_238⟩:=n_;clear hb hbox hg;have hnb50:=NB238_239.out;have hnc50:=NB239_238.out;obtain ⟨hcz51_0,hcz51_1,hfz51_0,hfz51_1⟩:=ce2_ BK238)|((with_reducible refine gate_callee (f:=23) rfl ?_);refine gl_ (some 10) Tryd.func23 #[.agg #[.int .i64 a0_0,.slice A0_1 l0_1.length c0_1]] ?_;(with_reducible refine (record_Valid.calls k a0_0 _ _ l0_1 false _ ?side3 ?side1 ?side2 A3.out).mono ?_);(case side1=>exact c0_);(case side2=>exact HC0_1.out);(case side3=>exact PTabs.step HT.out b0_);rintro e w52 ⟨rfl,hb⟩;refine ⟨_,rfl,?_⟩;have n_:=as3_ (bb_ BK238 hb) (bb_ BK239 hb) (below_step b0_ hb);clear BK238 BK239 HB;obtain ⟨BK238,BK239,HB⟩:=n_;(try clear hb);(try clear hk);obtain ⟨hcz53_0,hcz53_1,hfz53_0,hfz53_1⟩:=ce2_ BK239))
 refine bodyPost_ret (results_ct rfl _ _ gb239 24 #[.int .i64 0,.slice none 0 0] (0,0) _ rfl (by (with_reducible repeat (first|refine blk_drewN ?_ _|refine blk_drew ?_|refine blk_alloc ?_ _));refine blk_put (cs:=#[.int .i64 0,.slice none 0 0]) ?_ 1 _ rfl;(with_reducible repeat (first|refine blk_drewN ?_ _|refine blk_drew ?_|refine blk_alloc ?_ _));refine blk_put (cs:=#[.int .i64 0,.slice none 0 0]) ?_ 0 _ rfl;(with_reducible repeat (first|refine blk_drewN ?_ _|refine blk_drew ?_|refine blk_alloc ?_ _));exact BK239.out) Tryd.underlying24 rfl (by kernel_rfl)) rfl ?_
 exact ⟨_,r1_,(by first|exact Kd.V_nil _ _ _ _ _|exact Kd.N_V (by first|exact Kd.S_nil _ _ _ _ _|exact Kd.N_nil _ _ _ _ _|exact Kd.V_nil _ _ _ _ _|exact Kd.Q_nil _ _ _ _ _|exact Kd.R_nil _ _ _ _ _)),b0_⟩
 }
end
end Go.Proofs.YtdlolaognnbhpaaDoor.Pr
namespace Go.Proofs.YtdlolaognnbhpaaDoor.Pr
open Go.RowKit Go.Proofs.YtdlolaognnbhpaaDoorW.PrintWords Go.Proofs.YtdlolaognnbhpaaDoorW.PrintLast Go.Proofs.YtdlolaognnbhpaaDoorW.PrintMore
noncomputable section
attribute [local go_sem] max2_int min2_int max_two min_two max_three min_three max_four min_four
set_option linter.unusedVariables false
set_option linter.unusedSimpArgs false
def patch_Size.l0:Nat→Int→List (S53)→Int→Int→Option (Int)
 |0,_,_,_,_=>none
 |k+1,x3,x6,x7,x8=>if x8<x7 then (if 0≤x8 then (if x8<(x6.length:Int) then (patch_Size.l0 k (wrap64 (x3+(wrap64 ((((rd_T53 x6 x8).f1).length:Int)+(((rd_T53 x6 x8).f2).length:Int))))) x6 x7 (wrap64 (x8+1))) else (none)) else (none)) else (some x3)
def patch_Size.f (k:Nat) (l0:List (S53)):Option (Int):=patch_Size.l0 k 0 l0 (l0.length:Int) 0
set_option maxHeartbeats 8000000 in
set_option maxRecDepth 100000 in
theorem patch_Size.calls (k:Nat) (A0:Option Addr) (c0:Nat) (l0:List (S53)) (r:Int) (w:World) (hr0:Kd.C k53 w A0 l0.length l0) (hc0:l0.length≤c0) (h:patch_Size.f k l0=some r):
 Calls Tryd.prog 16 #[.slice A0 l0.length c0] w fun e w'=>e= .returned (.int .i64 r)∧Below w.heap.size w w':=by
 have hu53:=Tryd.underlying53
 have HR0:=Aside0.mk hr0
 have HC0:=Aside0.mk hc0
 clear hr0 hc0
 have HB:=Aside0.mk (Below.refl w.heap.size w)
 have H:(patch_Size.l0 k 0 l0 (l0.length:Int) 0)=some r:=h
 clear h
 have H':=Aside0.mk H
 clear H
 go_enter Tryd.func16,Tryd.ntmps16
 go_wp2
 go_loopg [3,8] k (fun kq v3 v8 w'=>∃ (x3_1:Int) (x8_1:Int),v3= .int .i64 x3_1∧v8= .int .i64 x8_1∧Aside0 (patch_Size.l0 kq x3_1 l0 (l0.length:Int) x8_1=some r)∧Aside0 (kq≤k)∧Aside0 (Below w.heap.size w w'))
 case atStart=>exact ⟨(0),(0),r0_,r0_,H',⟨Nat.le_refl _⟩,⟨b0_⟩⟩
 case round=>
  (
 clear H'
 try clear c1
 obtain ⟨x3_1,x8_1,rfl,rfl,HA,HK1,HB⟩:=hrel
 cases gk with
 |zero=>exact absurd HA.out (by simp [patch_Size.l0])
 |succ k1=>
  (
 have H:=HA.out
 clear HA
 simp only [patch_Size.l0] at H
 by_cases c2:x8_1<(l0.length:Int)
 {
 rw [if_pos c2] at H
 have c2b0:decide (x8_1<(l0.length:Int))=true:=decide_eq_true c2
 clear c2
 by_cases c3:0≤x8_1
 {
 rw [if_pos c3] at H
 have c3b0:decide (0≤x8_1)=true:=decide_eq_true c3
 clear c3
 by_cases c4:x8_1<(l0.length:Int)
 {
 rw [if_pos c4] at H
 have c4b0:decide (x8_1<(l0.length:Int))=true:=decide_eq_true c4
 clear c4
 have H':=Aside0.mk H
 clear H
 have p253:0≤(x8_1:Int):=od_
 have q253:x8_1<(l0.length:Int):=od_
 obtain ⟨ad253,A253_1,c253_1,A253_2,c253_2,e253,hx253_0,hx253_1,hx253_2,hl253_1,hi253_1,hl253_2,hi253_2⟩:=at_T53 HR0.out x8_1 p253 q253
 cases e253
 replace hx253_0:=cel_ HB hx253_0
 replace hx253_1:=cel_ HB hx253_1
 replace hx253_2:=cel_ HB hx253_2
 have HR253_1:=Aside0.mk hi253_1
 have HC253_1:=Aside0.mk hl253_1
 clear hi253_1 hl253_1
 have HR253_2:=Aside0.mk hi253_2
 have HC253_2:=Aside0.mk hl253_2
 clear hi253_2 hl253_2
 replace p253:=eq_true p253
 replace q253:=eq_true q253
 go_wp2_with (first|((with_reducible refine gate_dst (N:=5) rfl ?_);refine bx_ (N:=5) (cs:=#[.int .i64 0,.slice none 0 0,.slice none 0 0]) (t:=53) ?_;intro gb254 hg w5 hbox hb;have n_:=as4_ (below_step b0_ hb) (hbox) ((g0_ hg b0_:w.heap.size≤gb254)) ((g0_ hg b0_:w.heap.size≤gb254));clear HB;obtain ⟨HB,BK254,GW254,GE254⟩:=n_;clear hb hbox hg;obtain ⟨hcz6_0,hcz6_1,hcz6_2,hfz6_0,hfz6_1,hfz6_2⟩:=ce3_ BK254))
 go_roundg k1
 case measure=>have:=HK1.out;omega
 case rel=>exact ⟨(wrap64 (x3_1+(wrap64 ((((rd_T53 l0 x8_1).f1).length:Int)+(((rd_T53 l0 x8_1).f2).length:Int))))),(wrap64 (x8_1+1)),r0_,r0_,H',⟨by have:=HK1.out;omega⟩,⟨b0_⟩⟩
 }
 {
 rw [if_neg c4] at H
 exact absurd H (by simp)
 }
 }
 {
 rw [if_neg c3] at H
 exact absurd H (by simp)
 }
 }
 {
 rw [if_neg c2] at H
 have c2b0:decide (x8_1<(l0.length:Int))=false:=decide_eq_false c2
 clear c2
 obtain rfl:=Option.some.inj H
 go_wp2
 go_ret
 exact ⟨r1_,b0_⟩
 }
  )
  )
end
end Go.Proofs.YtdlolaognnbhpaaDoor.Pr
namespace Go.Proofs.YtdlolaognnbhpaaDoor.Pr
open Go.RowKit Go.Proofs.YtdlolaognnbhpaaDoorW.PrintWords Go.Proofs.YtdlolaognnbhpaaDoorW.PrintLast Go.Proofs.YtdlolaognnbhpaaDoorW.PrintMore
noncomputable section
attribute [local go_sem] max2_int min2_int max_two min_two max_three min_three max_four min_four
set_option linter.unusedVariables false
set_option linter.unusedSimpArgs false
attribute [local go_sem high] eqA47 eqA55
mutual
def bookplateref12_SameField.j0:Nat→Bool→ByteArray→Int→Int→List (S55)→ByteArray→Int→Int→List (S55)→Option (Bool)
 |0,_,_,_,_,_,_,_,_,_=>none
 |k+1,x26,x256000,x256001,x256002,x256003,x257000,x257001,x257002,x257003=>if x26=true then (some false) else (bookplateref12_SameField.l0 k 0 x256000 x256001 x256002 x256003 x257000 x257001 x257002 x257003)
def bookplateref12_SameField.l0:Nat→Int→ByteArray→Int→Int→List (S55)→ByteArray→Int→Int→List (S55)→Option (Bool)
 |0,_,_,_,_,_,_,_,_,_=>none
 |k+1,x5,x256000,x256001,x256002,x256003,x257000,x257001,x257002,x257003=>if x5<(x256003.length:Int) then (if 0≤x5 then (if x5<(x257003.length:Int) then (if (!(((rd_T55 x256003 x5).f0)==((rd_T55 x257003 x5).f0))||(!((((rd_T55 x256003 x5).f1).toList)==(((rd_T55 x257003 x5).f1).toList))))=true then (some false) else (bookplateref12_SameField.l0 k (wrap64 (x5+1)) x256000 x256001 x256002 x256003 x257000 x257001 x257002 x257003)) else (none)) else (none)) else (some true)
end
def bookplateref12_SameField.f (k:Nat) (a0_0:ByteArray) (a0_1:Int) (a0_2:Int) (l0_3:List (S55)) (a1_0:ByteArray) (a1_1:Int) (a1_2:Int) (l1_3:List (S55)):Option (Bool):=if a0_0.toList=a1_0.toList then (if (!(a0_1==a1_1)||(!(a0_2==a1_2)))=true then (bookplateref12_SameField.j0 k true a0_0 a0_1 a0_2 l0_3 a1_0 a1_1 a1_2 l1_3) else (bookplateref12_SameField.j0 k ((l0_3.length:Int) !=(l1_3.length:Int)) a0_0 a0_1 a0_2 l0_3 a1_0 a1_1 a1_2 l1_3)) else (bookplateref12_SameField.j0 k true a0_0 a0_1 a0_2 l0_3 a1_0 a1_1 a1_2 l1_3)
set_option maxHeartbeats 8000000 in
set_option maxRecDepth 100000 in
theorem bookplateref12_SameField.calls (k:Nat) (a0_0:ByteArray) (a0_1:Int) (a0_2:Int) (A0_3:Option Addr) (c0_3:Nat) (l0_3:List (S55)) (a1_0:ByteArray) (a1_1:Int) (a1_2:Int) (A1_3:Option Addr) (c1_3:Nat) (l1_3:List (S55)) (r:Bool) (w:World) (hr0_3:Kd.C k55 w A0_3 l0_3.length l0_3) (hc0_3:l0_3.length≤c0_3) (hr1_3:Kd.C k55 w A1_3 l1_3.length l1_3) (hc1_3:l1_3.length≤c1_3) (h:bookplateref12_SameField.f k a0_0 a0_1 a0_2 l0_3 a1_0 a1_1 a1_2 l1_3=some r):
 Calls Tryd.prog 40 #[.agg #[.string a0_0,.int .u8 a0_1,.int .u8 a0_2,.slice A0_3 l0_3.length c0_3],.agg #[.string a1_0,.int .u8 a1_1,.int .u8 a1_2,.slice A1_3 l1_3.length c1_3]] w fun e w'=>e= .returned (.bool r)∧Below w.heap.size w w':=by
 have hu50:=Tryd.underlying50
 have hu47:=Tryd.underlying47
 have hu55:=Tryd.underlying55
 have HR0_3:=Aside0.mk hr0_3
 have HC0_3:=Aside0.mk hc0_3
 clear hr0_3 hc0_3
 have HR1_3:=Aside0.mk hr1_3
 have HC1_3:=Aside0.mk hc1_3
 clear hr1_3 hc1_3
 have HB:=Aside0.mk (Below.refl w.heap.size w)
 have H:(if a0_0.toList=a1_0.toList then (if (!(a0_1==a1_1)||(!(a0_2==a1_2)))=true then (bookplateref12_SameField.j0 k true a0_0 a0_1 a0_2 l0_3 a1_0 a1_1 a1_2 l1_3) else (bookplateref12_SameField.j0 k ((l0_3.length:Int) !=(l1_3.length:Int)) a0_0 a0_1 a0_2 l0_3 a1_0 a1_1 a1_2 l1_3)) else (bookplateref12_SameField.j0 k true a0_0 a0_1 a0_2 l0_3 a1_0 a1_1 a1_2 l1_3))=some r:=h
 clear h
 have HC3:=Aside0.mk H
 clear H
 go_enter Tryd.func40,Tryd.ntmps40
 go_upto_region 1 with (first|((with_reducible refine gate_dst (N:=2) rfl ?_);(try (refine gate_guard (by rfl) ?_;dsimp only));refine bx_ (N:=2) (cs:=#[.string a0_0,.int .u8 a0_1,.int .u8 a0_2,.slice A0_3 l0_3.length c0_3]) (t:=50) ?_;intro gb255 hg w4 hbox hb;have n_:=as4_ (below_step b0_ hb) (hbox) ((g0_ hg b0_:w.heap.size≤gb255)) ((g0_ hg b0_:w.heap.size≤gb255));clear HB;obtain ⟨HB,BK255,GW255,GE255⟩:=n_;clear hb hbox hg)|((with_reducible refine gate_dst (N:=3) rfl ?_);(try (refine gate_guard (by rfl) ?_;dsimp only));refine bx_ (N:=3) (cs:=#[.string a1_0,.int .u8 a1_1,.int .u8 a1_2,.slice A1_3 l1_3.length c1_3]) (t:=50) ?_;intro gb256 hg w5 hbox hb;have n_:=as7_ (bb_ BK255 hb) (below_step b0_ hb) (hbox) ((g0_ hg b0_:w.heap.size≤gb256)) ((g0_ hg b0_:w.heap.size≤gb256)) ((g1_ hg k0_:gb255≠gb256)) ((g2_ hg k0_:gb256≠gb255));clear BK255 HB;obtain ⟨BK255,HB,BK256,GW256,GE256,NB255_256,NB256_255⟩:=n_;clear hb hbox hg))
 repeat (go_quiet (first|((with_reducible refine gate_dst (N:=2) rfl ?_);(try (refine gate_guard (by rfl) ?_;dsimp only));refine bx_ (N:=2) (cs:=#[.string a0_0,.int .u8 a0_1,.int .u8 a0_2,.slice A0_3 l0_3.length c0_3]) (t:=50) ?_;intro gb255 hg w4 hbox hb;have n_:=as4_ (below_step b0_ hb) (hbox) ((g0_ hg b0_:w.heap.size≤gb255)) ((g0_ hg b0_:w.heap.size≤gb255));clear HB;obtain ⟨HB,BK255,GW255,GE255⟩:=n_;clear hb hbox hg)|((with_reducible refine gate_dst (N:=3) rfl ?_);(try (refine gate_guard (by rfl) ?_;dsimp only));refine bx_ (N:=3) (cs:=#[.string a1_0,.int .u8 a1_1,.int .u8 a1_2,.slice A1_3 l1_3.length c1_3]) (t:=50) ?_;intro gb256 hg w5 hbox hb;have n_:=as7_ (bb_ BK255 hb) (below_step b0_ hb) (hbox) ((g0_ hg b0_:w.heap.size≤gb256)) ((g0_ hg b0_:w.heap.size≤gb256)) ((g1_ hg k0_:gb255≠gb256)) ((g2_ hg k0_:gb256≠gb255));clear BK255 HB;obtain ⟨BK255,HB,BK256,GW256,GE256,NB255_256,NB256_255⟩:=n_;clear hb hbox hg));go_upto_region 1 with (first|((with_reducible refine gate_dst (N:=2) rfl ?_);(try (refine gate_guard (by rfl) ?_;dsimp only));refine bx_ (N:=2) (cs:=#[.string a0_0,.int .u8 a0_1,.int .u8 a0_2,.slice A0_3 l0_3.length c0_3]) (t:=50) ?_;intro gb255 hg w4 hbox hb;have n_:=as4_ (below_step b0_ hb) (hbox) ((g0_ hg b0_:w.heap.size≤gb255)) ((g0_ hg b0_:w.heap.size≤gb255));clear HB;obtain ⟨HB,BK255,GW255,GE255⟩:=n_;clear hb hbox hg)|((with_reducible refine gate_dst (N:=3) rfl ?_);(try (refine gate_guard (by rfl) ?_;dsimp only));refine bx_ (N:=3) (cs:=#[.string a1_0,.int .u8 a1_1,.int .u8 a1_2,.slice A1_3 l1_3.length c1_3]) (t:=50) ?_;intro gb256 hg w5 hbox hb;have n_:=as7_ (bb_ BK255 hb) (below_step b0_ hb) (hbox) ((g0_ hg b0_:w.heap.size≤gb256)) ((g0_ hg b0_:w.heap.size≤gb256)) ((g1_ hg k0_:gb255≠gb256)) ((g2_ hg k0_:gb256≠gb255));clear BK255 HB;obtain ⟨BK255,HB,BK256,GW256,GE256,NB255_256,NB256_255⟩:=n_;clear hb hbox hg)))
 (try simp only [Act.put,List.setIfInBounds_toArray,List.set_cons_zero,List.set_cons_succ])
 go_cut [26] (fun v26 wc=>∃ (kq:Nat) (x26_2:Bool),v26= .bool x26_2∧Aside0 (bookplateref12_SameField.j0 kq x26_2 a0_0 a0_1 a0_2 l0_3 a1_0 a1_1 a1_2 l1_3=some r)∧Aside0 (kq≤k)∧Aside0 (wc.heap[gb255]?=some (.cells #[.string a0_0,.int .u8 a0_1,.int .u8 a0_2,(.slice A0_3 l0_3.length c0_3)] 50 (0,0)))∧Aside0 (wc.heap[gb256]?=some (.cells #[.string a1_0,.int .u8 a1_1,.int .u8 a1_2,(.slice A1_3 l1_3.length c1_3)] 50 (0,0)))∧Aside0 (Below w.heap.size w wc))
 case first=>
  (
 have H:=HC3.out
 clear HC3
 by_cases c6:a0_0.toList=a1_0.toList
 {
 rw [if_pos c6] at H
 have c6b0:(a0_0.toList==a1_0.toList)=true:=beq_iff_eq.mpr c6
 have c6b1:(a0_0.toList !=a1_0.toList)=false:=bne_eq_false_iff_eq.mpr c6
 clear c6
 (first|rw [c6b0]|(simp only [i64_w,i32_w];rw [c6b0])|skip)
 by_cases c7:(!(a0_1==a1_1)||(!(a0_2==a1_2)))=true
 {
 rw [if_pos c7] at H
 have c7b0:(!(a0_1==a1_1)||(!(a0_2==a1_2)))=true:=c7
 clear c7
 have H':=Aside0.mk H
 clear H
 have hnb8:=NB255_256.out
 have hnc8:=NB256_255.out
 have hcz9_0:w5.cell? ⟨gb255,0,none⟩=some (.string a0_0):=(blk_cell BK255.out 0).trans rfl;have hcz9_1:w5.cell? ⟨gb255,1,none⟩=some (.int .u8 a0_1):=(blk_cell BK255.out 1).trans rfl;have hcz9_2:w5.cell? ⟨gb255,2,none⟩=some (.int .u8 a0_2):=(blk_cell BK255.out 2).trans rfl;have hcz9_3:w5.cell? ⟨gb255,3,none⟩=some (.slice A0_3 l0_3.length c0_3):=(blk_cell BK255.out 3).trans rfl
 have hfz9_0:=blk_frozen BK255.out 0
 have hfz9_1:=blk_frozen BK255.out 1
 have hfz9_2:=blk_frozen BK255.out 2
 have hfz9_3:=blk_frozen BK255.out 3;have hcz10_0:w5.cell? ⟨gb256,0,none⟩=some (.string a1_0):=(blk_cell BK256.out 0).trans rfl;have hcz10_1:w5.cell? ⟨gb256,1,none⟩=some (.int .u8 a1_1):=(blk_cell BK256.out 1).trans rfl;have hcz10_2:w5.cell? ⟨gb256,2,none⟩=some (.int .u8 a1_2):=(blk_cell BK256.out 2).trans rfl;have hcz10_3:w5.cell? ⟨gb256,3,none⟩=some (.slice A1_3 l1_3.length c1_3):=(blk_cell BK256.out 3).trans rfl
 have hfz10_0:=blk_frozen BK256.out 0
 have hfz10_1:=blk_frozen BK256.out 1
 have hfz10_2:=blk_frozen BK256.out 2
 have hfz10_3:=blk_frozen BK256.out 3
 go_wp2
 repeat (go_quiet (fail);try go_wp2)
 go_meet
 case rel=>exact ⟨_,(true),r0_,H',⟨by first|omega|exact Nat.le_refl _⟩,⟨k0_⟩,⟨k0_⟩,⟨b0_⟩⟩
 }
 {
 rw [if_neg c7] at H
 have c7b0:(!(a0_1==a1_1)||(!(a0_2==a1_2)))=false:=by simpa using c7
 clear c7
 have H':=Aside0.mk H
 clear H
 have hnb11:=NB255_256.out
 have hnc11:=NB256_255.out
 have hcz12_0:w5.cell? ⟨gb255,0,none⟩=some (.string a0_0):=(blk_cell BK255.out 0).trans rfl;have hcz12_1:w5.cell? ⟨gb255,1,none⟩=some (.int .u8 a0_1):=(blk_cell BK255.out 1).trans rfl;have hcz12_2:w5.cell? ⟨gb255,2,none⟩=some (.int .u8 a0_2):=(blk_cell BK255.out 2).trans rfl;have hcz12_3:w5.cell? ⟨gb255,3,none⟩=some (.slice A0_3 l0_3.length c0_3):=(blk_cell BK255.out 3).trans rfl
 have hfz12_0:=blk_frozen BK255.out 0
 have hfz12_1:=blk_frozen BK255.out 1
 have hfz12_2:=blk_frozen BK255.out 2
 have hfz12_3:=blk_frozen BK255.out 3;have hcz13_0:w5.cell? ⟨gb256,0,none⟩=some (.string a1_0):=(blk_cell BK256.out 0).trans rfl;have hcz13_1:w5.cell? ⟨gb256,1,none⟩=some (.int .u8 a1_1):=(blk_cell BK256.out 1).trans rfl;have hcz13_2:w5.cell? ⟨gb256,2,none⟩=some (.int .u8 a1_2):=(blk_cell BK256.out 2).trans rfl;have hcz13_3:w5.cell? ⟨gb256,3,none⟩=some (.slice A1_3 l1_3.length c1_3):=(blk_cell BK256.out 3).trans rfl
 have hfz13_0:=blk_frozen BK256.out 0
 have hfz13_1:=blk_frozen BK256.out 1
 have hfz13_2:=blk_frozen BK256.out 2
 have hfz13_3:=blk_frozen BK256.out 3
 go_wp2
 repeat (go_quiet (fail);try go_wp2)
 go_meet
 case rel=>exact ⟨_,(((l0_3.length:Int) !=(l1_3.length:Int))),r0_,H',⟨by first|omega|exact Nat.le_refl _⟩,⟨k0_⟩,⟨k0_⟩,⟨b0_⟩⟩
 }
 }
 {
 rw [if_neg c6] at H
 have c6b0:(a0_0.toList==a1_0.toList)=false:=beq_eq_false_iff_ne.mpr c6
 have c6b1:(a0_0.toList !=a1_0.toList)=true:=bne_iff_ne.mpr c6
 (first|rw [c6b0]|(simp only [i64_w,i32_w];rw [c6b0])|skip)
 have H':=Aside0.mk H
 clear H
 have hnb14:=NB255_256.out
 have hnc14:=NB256_255.out
 have hcz15_0:w5.cell? ⟨gb255,0,none⟩=some (.string a0_0):=(blk_cell BK255.out 0).trans rfl;have hcz15_1:w5.cell? ⟨gb255,1,none⟩=some (.int .u8 a0_1):=(blk_cell BK255.out 1).trans rfl;have hcz15_2:w5.cell? ⟨gb255,2,none⟩=some (.int .u8 a0_2):=(blk_cell BK255.out 2).trans rfl;have hcz15_3:w5.cell? ⟨gb255,3,none⟩=some (.slice A0_3 l0_3.length c0_3):=(blk_cell BK255.out 3).trans rfl
 have hfz15_0:=blk_frozen BK255.out 0
 have hfz15_1:=blk_frozen BK255.out 1
 have hfz15_2:=blk_frozen BK255.out 2
 have hfz15_3:=blk_frozen BK255.out 3;have hcz16_0:w5.cell? ⟨gb256,0,none⟩=some (.string a1_0):=(blk_cell BK256.out 0).trans rfl;have hcz16_1:w5.cell? ⟨gb256,1,none⟩=some (.int .u8 a1_1):=(blk_cell BK256.out 1).trans rfl;have hcz16_2:w5.cell? ⟨gb256,2,none⟩=some (.int .u8 a1_2):=(blk_cell BK256.out 2).trans rfl;have hcz16_3:w5.cell? ⟨gb256,3,none⟩=some (.slice A1_3 l1_3.length c1_3):=(blk_cell BK256.out 3).trans rfl
 have hfz16_0:=blk_frozen BK256.out 0
 have hfz16_1:=blk_frozen BK256.out 1
 have hfz16_2:=blk_frozen BK256.out 2
 have hfz16_3:=blk_frozen BK256.out 3
 go_wp2
 repeat (go_quiet (fail);try go_wp2)
 go_meet
 case rel=>exact ⟨_,(true),r0_,H',⟨by first|omega|exact Nat.le_refl _⟩,⟨k0_⟩,⟨k0_⟩,⟨b0_⟩⟩
 }
  )
 case rest=>
  (
 clear HC3
 try clear c1
 try clear p2
 try clear c4
 try clear c6
 try clear c6b0
 try clear c6b1
 try clear c7
 try clear c7b0
 try clear c8
 try clear c11
 try clear c14
 try clear hcz10_0
 try clear hcz10_1
 try clear hcz10_2
 try clear hcz10_3
 try clear hcz12_0
 try clear hcz12_1
 try clear hcz12_2
 try clear hcz12_3
 try clear hcz13_0
 try clear hcz13_1
 try clear hcz13_2
 try clear hcz13_3
 try clear hcz15_0
 try clear hcz15_1
 try clear hcz15_2
 try clear hcz15_3
 try clear hcz16_0
 try clear hcz16_1
 try clear hcz16_2
 try clear hcz16_3
 try clear hcz9_0
 try clear hcz9_1
 try clear hcz9_2
 try clear hcz9_3
 try clear hfz10_0
 try clear hfz10_1
 try clear hfz10_2
 try clear hfz10_3
 try clear hfz12_0
 try clear hfz12_1
 try clear hfz12_2
 try clear hfz12_3
 try clear hfz13_0
 try clear hfz13_1
 try clear hfz13_2
 try clear hfz13_3
 try clear hfz15_0
 try clear hfz15_1
 try clear hfz15_2
 try clear hfz15_3
 try clear hfz16_0
 try clear hfz16_1
 try clear hfz16_2
 try clear hfz16_3
 try clear hfz9_0
 try clear hfz9_1
 try clear hfz9_2
 try clear hfz9_3
 obtain ⟨kq,x26_2,rfl,HA,HJ2,BK255,BK256,HB⟩:=hcut
 cases kq with
 |zero=>exact absurd HA.out (by simp [bookplateref12_SameField.j0])
 |succ kj2=>
  (
 have H:=HA.out
 clear HA
 simp only [bookplateref12_SameField.j0] at H
 by_cases c17:x26_2=true
 {
 subst c17
 replace H:=tp_ H
 obtain rfl:=Option.some.inj H
 go_wp2
 repeat (go_quiet (fail);try go_wp2)
 go_ret
 exact ⟨r1_,b0_⟩
 }
 {
 replace c17:=Bool.eq_false_iff.mpr c17
 subst c17
 replace H:=fn_ H
 have H':=Aside0.mk H
 clear H
 go_wp2
 repeat (go_quiet (fail);try go_wp2)
 go_loopg [5] kj2 (fun kq v5 w'=>∃ (x5_2:Int),v5= .int .i64 x5_2∧Aside0 (bookplateref12_SameField.l0 kq x5_2 a0_0 a0_1 a0_2 l0_3 a1_0 a1_1 a1_2 l1_3=some r)∧Aside0 (kq≤kj2)∧Aside0 (w'.heap[gb255]?=some (.cells #[.string a0_0,.int .u8 a0_1,.int .u8 a0_2,(.slice A0_3 l0_3.length c0_3)] 50 (0,0)))∧Aside0 (w'.heap[gb256]?=some (.cells #[.string a1_0,.int .u8 a1_1,.int .u8 a1_2,(.slice A1_3 l1_3.length c1_3)] 50 (0,0)))∧Aside0 (Below w.heap.size w w'))
 case atStart=>exact ⟨(0),r0_,H',⟨Nat.le_refl _⟩,⟨k0_⟩,⟨k0_⟩,⟨b0_⟩⟩
 case round=>
  (
 clear H'
 try clear c1
 try clear p2
 try clear c4
 try clear c6
 try clear c6b0
 try clear c6b1
 try clear c7
 try clear c7b0
 try clear c8
 try clear c11
 try clear c14
 try clear c17
 try clear hcz10_0
 try clear hcz10_1
 try clear hcz10_2
 try clear hcz10_3
 try clear hcz12_0
 try clear hcz12_1
 try clear hcz12_2
 try clear hcz12_3
 try clear hcz13_0
 try clear hcz13_1
 try clear hcz13_2
 try clear hcz13_3
 try clear hcz15_0
 try clear hcz15_1
 try clear hcz15_2
 try clear hcz15_3
 try clear hcz16_0
 try clear hcz16_1
 try clear hcz16_2
 try clear hcz16_3
 try clear hcz9_0
 try clear hcz9_1
 try clear hcz9_2
 try clear hcz9_3
 try clear hfz10_0
 try clear hfz10_1
 try clear hfz10_2
 try clear hfz10_3
 try clear hfz12_0
 try clear hfz12_1
 try clear hfz12_2
 try clear hfz12_3
 try clear hfz13_0
 try clear hfz13_1
 try clear hfz13_2
 try clear hfz13_3
 try clear hfz15_0
 try clear hfz15_1
 try clear hfz15_2
 try clear hfz15_3
 try clear hfz16_0
 try clear hfz16_1
 try clear hfz16_2
 try clear hfz16_3
 try clear hfz9_0
 try clear hfz9_1
 try clear hfz9_2
 try clear hfz9_3
 try clear p2
 obtain ⟨x5_2,rfl,HA,HK2,BK255,BK256,HB⟩:=hrel
 cases gk with
 |zero=>exact absurd HA.out (by simp [bookplateref12_SameField.l0])
 |succ k2=>
  (
 have H:=HA.out
 clear HA
 simp only [bookplateref12_SameField.l0] at H
 by_cases c18:x5_2<(l0_3.length:Int)
 {
 rw [if_pos c18] at H
 have c18b0:decide (x5_2<(l0_3.length:Int))=true:=decide_eq_true c18
 clear c18
 by_cases c19:0≤x5_2
 {
 rw [if_pos c19] at H
 have c19b0:decide (0≤x5_2)=true:=decide_eq_true c19
 clear c19
 by_cases c20:x5_2<(l1_3.length:Int)
 {
 rw [if_pos c20] at H
 have c20b0:decide (x5_2<(l1_3.length:Int))=true:=decide_eq_true c20
 clear c20
 by_cases c21:(!(((rd_T55 l0_3 x5_2).f0)==((rd_T55 l1_3 x5_2).f0))||(!((((rd_T55 l0_3 x5_2).f1).toList)==(((rd_T55 l1_3 x5_2).f1).toList))))=true
 {
 rw [if_pos c21] at H
 have c21b0:(!(((rd_T55 l0_3 x5_2).f0)==((rd_T55 l1_3 x5_2).f0))||(!((((rd_T55 l0_3 x5_2).f1).toList)==(((rd_T55 l1_3 x5_2).f1).toList))))=true:=c21
 clear c21
 obtain rfl:=Option.some.inj H
 have hnb22:=NB255_256.out
 have hnc22:=NB256_255.out
 have hcz23_0:wr.cell? ⟨gb255,0,none⟩=some (.string a0_0):=(blk_cell BK255.out 0).trans rfl;have hcz23_1:wr.cell? ⟨gb255,1,none⟩=some (.int .u8 a0_1):=(blk_cell BK255.out 1).trans rfl;have hcz23_2:wr.cell? ⟨gb255,2,none⟩=some (.int .u8 a0_2):=(blk_cell BK255.out 2).trans rfl;have hcz23_3:wr.cell? ⟨gb255,3,none⟩=some (.slice A0_3 l0_3.length c0_3):=(blk_cell BK255.out 3).trans rfl
 have hfz23_0:=blk_frozen BK255.out 0
 have hfz23_1:=blk_frozen BK255.out 1
 have hfz23_2:=blk_frozen BK255.out 2
 have hfz23_3:=blk_frozen BK255.out 3
 have p257:0≤(x5_2:Int):=od_
 have q257:x5_2<(l0_3.length:Int):=od_
 obtain ⟨ad257,e257,hx257_0,hx257_1⟩:=at_T55 HR0_3.out x5_2 p257 q257
 cases e257
 replace hx257_0:=cel_ HB hx257_0
 replace hx257_1:=cel_ HB hx257_1
 replace p257:=eq_true p257
 replace q257:=eq_true q257
 have hcz24_0:wr.cell? ⟨gb256,0,none⟩=some (.string a1_0):=(blk_cell BK256.out 0).trans rfl;have hcz24_1:wr.cell? ⟨gb256,1,none⟩=some (.int .u8 a1_1):=(blk_cell BK256.out 1).trans rfl;have hcz24_2:wr.cell? ⟨gb256,2,none⟩=some (.int .u8 a1_2):=(blk_cell BK256.out 2).trans rfl;have hcz24_3:wr.cell? ⟨gb256,3,none⟩=some (.slice A1_3 l1_3.length c1_3):=(blk_cell BK256.out 3).trans rfl
 have hfz24_0:=blk_frozen BK256.out 0
 have hfz24_1:=blk_frozen BK256.out 1
 have hfz24_2:=blk_frozen BK256.out 2
 have hfz24_3:=blk_frozen BK256.out 3
 have p258:0≤(x5_2:Int):=od_
 have q258:x5_2<(l1_3.length:Int):=od_
 obtain ⟨ad258,e258,hx258_0,hx258_1⟩:=at_T55 HR1_3.out x5_2 p258 q258
 cases e258
 replace hx258_0:=cel_ HB hx258_0
 replace hx258_1:=cel_ HB hx258_1
 replace p258:=eq_true p258
 replace q258:=eq_true q258
 go_wp2
 repeat (go_quiet (fail);try go_wp2)
 go_ret
 exact ⟨r1_,b0_⟩
 }
 {
 rw [if_neg c21] at H
 have c21b0:(!(((rd_T55 l0_3 x5_2).f0)==((rd_T55 l1_3 x5_2).f0))||(!((((rd_T55 l0_3 x5_2).f1).toList)==(((rd_T55 l1_3 x5_2).f1).toList))))=false:=by simpa using c21
 clear c21
 have H':=Aside0.mk H
 clear H
 have hnb25:=NB255_256.out
 have hnc25:=NB256_255.out
 have hcz26_0:wr.cell? ⟨gb255,0,none⟩=some (.string a0_0):=(blk_cell BK255.out 0).trans rfl;have hcz26_1:wr.cell? ⟨gb255,1,none⟩=some (.int .u8 a0_1):=(blk_cell BK255.out 1).trans rfl;have hcz26_2:wr.cell? ⟨gb255,2,none⟩=some (.int .u8 a0_2):=(blk_cell BK255.out 2).trans rfl;have hcz26_3:wr.cell? ⟨gb255,3,none⟩=some (.slice A0_3 l0_3.length c0_3):=(blk_cell BK255.out 3).trans rfl
 have hfz26_0:=blk_frozen BK255.out 0
 have hfz26_1:=blk_frozen BK255.out 1
 have hfz26_2:=blk_frozen BK255.out 2
 have hfz26_3:=blk_frozen BK255.out 3
 have p257:0≤(x5_2:Int):=od_
 have q257:x5_2<(l0_3.length:Int):=od_
 obtain ⟨ad257,e257,hx257_0,hx257_1⟩:=at_T55 HR0_3.out x5_2 p257 q257
 cases e257
 replace hx257_0:=cel_ HB hx257_0
 replace hx257_1:=cel_ HB hx257_1
 replace p257:=eq_true p257
 replace q257:=eq_true q257
 have hcz27_0:wr.cell? ⟨gb256,0,none⟩=some (.string a1_0):=(blk_cell BK256.out 0).trans rfl;have hcz27_1:wr.cell? ⟨gb256,1,none⟩=some (.int .u8 a1_1):=(blk_cell BK256.out 1).trans rfl;have hcz27_2:wr.cell? ⟨gb256,2,none⟩=some (.int .u8 a1_2):=(blk_cell BK256.out 2).trans rfl;have hcz27_3:wr.cell? ⟨gb256,3,none⟩=some (.slice A1_3 l1_3.length c1_3):=(blk_cell BK256.out 3).trans rfl
 have hfz27_0:=blk_frozen BK256.out 0
 have hfz27_1:=blk_frozen BK256.out 1
 have hfz27_2:=blk_frozen BK256.out 2
 have hfz27_3:=blk_frozen BK256.out 3
 have p258:0≤(x5_2:Int):=od_
 have q258:x5_2<(l1_3.length:Int):=od_
 obtain ⟨ad258,e258,hx258_0,hx258_1⟩:=at_T55 HR1_3.out x5_2 p258 q258
 cases e258
 replace hx258_0:=cel_ HB hx258_0
 replace hx258_1:=cel_ HB hx258_1
 replace p258:=eq_true p258
 replace q258:=eq_true q258
 go_wp2
 repeat (go_quiet (fail);try go_wp2)
 go_roundg k2
 case measure=>have:=HJ2.out;have:=HK2.out;omega
 case rel=>exact ⟨(wrap64 (x5_2+1)),r0_,H',⟨by have:=HJ2.out;have:=HK2.out;omega⟩,⟨k0_⟩,⟨k0_⟩,⟨b0_⟩⟩
 }
 }
 {
 rw [if_neg c20] at H
 exact absurd H (by simp)
 }
 }
 {
 rw [if_neg c19] at H
 exact absurd H (by simp)
 }
 }
 {
 rw [if_neg c18] at H
 have c18b0:decide (x5_2<(l0_3.length:Int))=false:=decide_eq_false c18
 clear c18
 obtain rfl:=Option.some.inj H
 have hnb28:=NB255_256.out
 have hnc28:=NB256_255.out
 have hcz29_0:wr.cell? ⟨gb255,0,none⟩=some (.string a0_0):=(blk_cell BK255.out 0).trans rfl;have hcz29_1:wr.cell? ⟨gb255,1,none⟩=some (.int .u8 a0_1):=(blk_cell BK255.out 1).trans rfl;have hcz29_2:wr.cell? ⟨gb255,2,none⟩=some (.int .u8 a0_2):=(blk_cell BK255.out 2).trans rfl;have hcz29_3:wr.cell? ⟨gb255,3,none⟩=some (.slice A0_3 l0_3.length c0_3):=(blk_cell BK255.out 3).trans rfl
 have hfz29_0:=blk_frozen BK255.out 0
 have hfz29_1:=blk_frozen BK255.out 1
 have hfz29_2:=blk_frozen BK255.out 2
 have hfz29_3:=blk_frozen BK255.out 3
 go_wp2
 repeat (go_quiet (fail);try go_wp2)
 go_ret
 exact ⟨r1_,b0_⟩
 }
  )
  )
 }
  )
  )
end
end Go.Proofs.YtdlolaognnbhpaaDoor.Pr
