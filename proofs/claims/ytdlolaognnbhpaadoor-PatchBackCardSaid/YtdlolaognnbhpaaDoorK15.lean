/- A part of the proof of laws of this seat: PatchBack, PatchDiff, PatchLeast, PatchMetric. Conditions: none of our own. -/
import Derived.Test.YtdlolaognnbhpaaDoorK4
namespace Go.Proofs.YtdlolaognnbhpaaDoor.Pr
open Go.RowKit Go.Proofs.YtdlolaognnbhpaaDoorW.PrintWords Go.Proofs.YtdlolaognnbhpaaDoorW.PrintLast Go.Proofs.YtdlolaognnbhpaaDoorW.PrintMore
noncomputable section
attribute [local go_sem] max2_int min2_int max_two min_two max_three min_three max_four min_four
set_option linter.unusedVariables false
set_option linter.unusedSimpArgs false
mutual
def bookplateref12_Few.l0:Nat→Int→Int→Int→List (S50)→Option (Bool)
 |0,_,_,_,_=>none
 |k+1,x1,x5,x319000,x319001=>if x5<(x319001.length:Int) then (if 0≤x5 then (if (((rd_T50 x319001 x5).f2).length:Int)>8 then (if (((rd_T50 x319001 x5).f2).length:Int)=20 then (bookplateref12_Few.j1 k x1 x5 (decide ((((rd_T50 x319001 x5).f0).size:Int)>20)) x319000 x319001 ((rd_T50 x319001 x5).f0) ((rd_T50 x319001 x5).f1.f0) ((rd_T50 x319001 x5).f1.f1) ((rd_T50 x319001 x5).f2)) else (if (((rd_T50 x319001 x5).f2).length:Int)=21 then (bookplateref12_Few.j1 k x1 x5 (decide ((((rd_T50 x319001 x5).f0).size:Int)>20)) x319000 x319001 ((rd_T50 x319001 x5).f0) ((rd_T50 x319001 x5).f1.f0) ((rd_T50 x319001 x5).f1.f1) ((rd_T50 x319001 x5).f2)) else (bookplateref12_Few.j1 k x1 x5 true x319000 x319001 ((rd_T50 x319001 x5).f0) ((rd_T50 x319001 x5).f1.f0) ((rd_T50 x319001 x5).f1.f1) ((rd_T50 x319001 x5).f2)))) else (bookplateref12_Few.j1 k x1 x5 (decide ((((rd_T50 x319001 x5).f0).size:Int)>20)) x319000 x319001 ((rd_T50 x319001 x5).f0) ((rd_T50 x319001 x5).f1.f0) ((rd_T50 x319001 x5).f1.f1) ((rd_T50 x319001 x5).f2))) else (none)) else (some (decide ((x319001.length:Int)≤x1)))
def bookplateref12_Few.j1:Nat→Int→Int→Bool→Int→List (S50)→ByteArray→Int→Int→List (S55)→Option (Bool)
 |0,_,_,_,_,_,_,_,_,_=>none
 |k+1,x1,x5,x41,x319000,x319001,x321000,x321001,x321002,x321003=>if x41=true then (some false) else (bookplateref12_Few.l1 k x1 x5 0 x319000 x319001 x321000 x321001 x321002 x321003)
def bookplateref12_Few.l1:Nat→Int→Int→Int→Int→List (S50)→ByteArray→Int→Int→List (S55)→Option (Bool)
 |0,_,_,_,_,_,_,_,_,_=>none
 |k+1,x1,x5,x7,x319000,x319001,x321000,x321001,x321002,x321003=>if x7<(x321003.length:Int) then (if 0≤x7 then (if (((rd_T55 x321003 x7).f1).size:Int)>80 then (if (((rd_T55 x321003 x7).f1).size:Int)<400 then (some false) else (if (((rd_T55 x321003 x7).f1).size:Int)>402 then (some false) else (bookplateref12_Few.l1 k x1 x5 (wrap64 (x7+1)) x319000 x319001 x321000 x321001 x321002 x321003))) else (if (((rd_T55 x321003 x7).f1).size:Int)>402 then (some false) else (bookplateref12_Few.l1 k x1 x5 (wrap64 (x7+1)) x319000 x319001 x321000 x321001 x321002 x321003))) else (none)) else (bookplateref12_Few.l0 k x1 (wrap64 (x5+1)) x319000 x319001)
end
def bookplateref12_Few.f (k:Nat) (a0_0:Int) (l0_1:List (S50)) (a1:Int):Option (Bool):=bookplateref12_Few.l0 k a1 0 a0_0 l0_1
set_option maxHeartbeats 8000000 in
set_option maxRecDepth 100000 in
theorem bookplateref12_Few.calls (k:Nat) (a0_0:Int) (A0_1:Option Addr) (c0_1:Nat) (l0_1:List (S50)) (a1:Int) (r:Bool) (w:World) (hr0_1:Kd.C k50 w A0_1 l0_1.length l0_1) (hc0_1:l0_1.length≤c0_1) (h:bookplateref12_Few.f k a0_0 l0_1 a1=some r):
 Calls Tryd.prog 8 #[.agg #[.int .i64 a0_0,.slice A0_1 l0_1.length c0_1],.int .i64 a1] w fun e w'=>e= .returned (.bool r)∧Below w.heap.size w w':=by
 have hu24:=Tryd.underlying24
 have hu50:=Tryd.underlying50
 have HR0_1:=Aside0.mk hr0_1
 have HC0_1:=Aside0.mk hc0_1
 clear hr0_1 hc0_1
 have HB:=Aside0.mk (Below.refl w.heap.size w)
 have H:(bookplateref12_Few.l0 k a1 0 a0_0 l0_1)=some r:=h
 clear h
 have H':=Aside0.mk H
 clear H
 go_enter Tryd.func8,Tryd.ntmps8
 go_wp2_with (first|((with_reducible refine gate_dst (N:=2) rfl ?_);(try (refine gate_guard (by rfl) ?_;dsimp only));refine bx_ (N:=2) (cs:=#[.int .i64 a0_0,.slice A0_1 l0_1.length c0_1]) (t:=24) ?_;intro gb318 hg w3 hbox hb;have n_:=as4_ (below_step b0_ hb) (hbox) ((g0_ hg b0_:w.heap.size≤gb318)) ((g0_ hg b0_:w.heap.size≤gb318));clear HB;obtain ⟨HB,BK318,GW318,GE318⟩:=n_;clear hb hbox hg))
 go_loopg [5] k (fun kq v5 w'=>∃ (x5_1:Int),v5= .int .i64 x5_1∧Aside0 (bookplateref12_Few.l0 kq a1 x5_1 a0_0 l0_1=some r)∧Aside0 (kq≤k)∧Aside0 (w'.heap[gb318]?=some (.cells #[.int .i64 a0_0,(.slice A0_1 l0_1.length c0_1)] 24 (0,0)))∧Aside0 (Below w.heap.size w w'))
 case atStart=>exact ⟨(0),r0_,H',⟨Nat.le_refl _⟩,⟨k0_⟩,⟨b0_⟩⟩
 case round=>
  (
 clear H'
 try clear p2
 obtain ⟨x5_1,rfl,HA,HK1,BK318,HB⟩:=hrel
 cases gk with
 |zero=>exact absurd HA.out (by simp [bookplateref12_Few.l0])
 |succ k1=>
  (
 have H:=HA.out
 clear HA
 simp only [bookplateref12_Few.l0] at H
 by_cases c4:x5_1<(l0_1.length:Int)
 {
 rw [if_pos c4] at H
 have c4b0:decide (x5_1<(l0_1.length:Int))=true:=decide_eq_true c4
 clear c4
 by_cases c5:0≤x5_1
 {
 rw [if_pos c5] at H
 have c5b0:decide (0≤x5_1)=true:=decide_eq_true c5
 clear c5
 have HC6:=Aside0.mk H
 clear H
 have hcz7_0:wr.cell? ⟨gb318,0,none⟩=some (.int .i64 a0_0):=(blk_cell BK318.out 0).trans rfl;have hcz7_1:wr.cell? ⟨gb318,1,none⟩=some (.slice A0_1 l0_1.length c0_1):=(blk_cell BK318.out 1).trans rfl
 have hfz7_0:=blk_frozen BK318.out 0
 have hfz7_1:=blk_frozen BK318.out 1
 have p319:0≤(x5_1:Int):=od_
 have q319:x5_1<(l0_1.length:Int):=od_
 obtain ⟨ad319,A319_3,c319_3,e319,hx319_0,hx319_1,hx319_2,hx319_3,hl319_3,hi319_3⟩:=at_T50 HR0_1.out x5_1 p319 q319
 cases e319
 replace hx319_0:=cel_ HB hx319_0
 replace hx319_1:=cel_ HB hx319_1
 replace hx319_2:=cel_ HB hx319_2
 replace hx319_3:=cel_ HB hx319_3
 have HR319_3:=Aside0.mk hi319_3
 have HC319_3:=Aside0.mk hl319_3
 clear hi319_3 hl319_3
 replace p319:=eq_true p319
 replace q319:=eq_true q319
 go_upto_region 5 with (first|((with_reducible refine gate_dst (N:=6) rfl ?_);(try (refine gate_guard (by rfl) ?_;dsimp only));refine box_event ?hg (N:=6) ?hd (cs:=#[.string (⟨#[]⟩:ByteArray),.int .u8 0,.int .u8 0,.slice none 0 0]) (t:=50) ?hr ?_;(case hd=>rfl);(case hg=>rfl);(case hr=>first|(go_simp;done)|(go_simp;rfl));intro gb320 hg w8 hbox hb;have n_:=as7_ (bb_ BK318 hb) (below_step b0_ hb) (hbox) ((g0_ hg b0_:w.heap.size≤gb320)) ((g0_ hg b0_:w.heap.size≤gb320)) ((g1_ hg k0_:gb318≠gb320)) ((g2_ hg k0_:gb320≠gb318));clear BK318 HB;obtain ⟨BK318,HB,BK320,GW320,GE320,NB318_320,NB320_318⟩:=n_;clear hb hbox hg;have hnb9:=NB320_318.out;have hnc9:=NB318_320.out;obtain ⟨hcz10_0,hcz10_1,hcz10_2,hcz10_3,hfz10_0,hfz10_1,hfz10_2,hfz10_3⟩:=ce4_ BK320))
 (try simp only [Act.put,List.setIfInBounds_toArray,List.set_cons_zero,List.set_cons_succ])
 go_cut [41] (fun v41 wc=>∃ (kq:Nat) (x41_5:Bool),v41= .bool x41_5∧Aside0 (bookplateref12_Few.j1 kq a1 x5_1 x41_5 a0_0 l0_1 ((rd_T50 l0_1 x5_1).f0) ((rd_T50 l0_1 x5_1).f1.f0) ((rd_T50 l0_1 x5_1).f1.f1) ((rd_T50 l0_1 x5_1).f2)=some r)∧Aside0 (kq≤k1)∧Aside0 (wc.heap[gb318]?=some (.cells #[.int .i64 a0_0,(.slice (some ad319) l0_1.length c0_1)] 24 (0,0)))∧Aside0 (wc.heap[gb320]?=some (.cells #[.string ((rd_T50 l0_1 x5_1).f0),.int .u8 ((rd_T50 l0_1 x5_1).f1.f0),.int .u8 ((rd_T50 l0_1 x5_1).f1.f1),(.slice A319_3 ((rd_T50 l0_1 x5_1).f2).length c319_3)] 50 (0,0)))∧Aside0 (Below w.heap.size w wc))
 case first=>
  (
 have H:=HC6.out
 clear HC6
 by_cases c11:(((rd_T50 l0_1 x5_1).f2).length:Int)>8
 {
 rw [if_pos c11] at H
 have c11b0:decide (8<(((rd_T50 l0_1 x5_1).f2).length:Int))=true:=decide_eq_true c11
 have c11b1:decide (8<((rd_T50 l0_1 x5_1).f2).length)=true:=decide_eq_true (by omega)
 clear c11
 (first|rw [c11b0]|(simp only [i64_w,i32_w];rw [c11b0])|skip)
 by_cases c12:(((rd_T50 l0_1 x5_1).f2).length:Int)=20
 {
 rw [if_pos c12] at H
 have c12b0:((((rd_T50 l0_1 x5_1).f2).length:Int)==20)=true:=beq_iff_eq.mpr c12
 have c12b1:((((rd_T50 l0_1 x5_1).f2).length:Int) !=20)=false:=bne_eq_false_iff_eq.mpr c12
 clear c12
 have H':=Aside0.mk H
 clear H
 have hnb13:=NB320_318.out
 have hnc13:=NB318_320.out
 have hcz14_0:w8.cell? ⟨gb320,0,none⟩=some (.string (⟨#[]⟩:ByteArray)):=(blk_cell BK320.out 0).trans rfl;have hcz14_1:w8.cell? ⟨gb320,1,none⟩=some (.int .u8 0):=(blk_cell BK320.out 1).trans rfl;have hcz14_2:w8.cell? ⟨gb320,2,none⟩=some (.int .u8 0):=(blk_cell BK320.out 2).trans rfl;have hcz14_3:w8.cell? ⟨gb320,3,none⟩=some (.slice none 0 0):=(blk_cell BK320.out 3).trans rfl
 have hfz14_0:=blk_frozen BK320.out 0
 have hfz14_1:=blk_frozen BK320.out 1
 have hfz14_2:=blk_frozen BK320.out 2
 have hfz14_3:=blk_frozen BK320.out 3
 go_wp2
 go_meet
 case rel=>exact ⟨_,(decide ((((rd_T50 l0_1 x5_1).f0).size:Int)>20)),r0_,H',⟨by have:=HK1.out;first|omega|exact Nat.le_refl _⟩,⟨k0_⟩,⟨by (with_reducible repeat (first|refine blk_drewN ?_ _|refine blk_drew ?_|refine blk_alloc ?_ _));refine blk_put (cs:=#[.string ((rd_T50 l0_1 x5_1).f0),.int .u8 ((rd_T50 l0_1 x5_1).f1.f0),.int .u8 ((rd_T50 l0_1 x5_1).f1.f1),.slice none 0 0]) ?_ 3 _ rfl;(with_reducible repeat (first|refine blk_drewN ?_ _|refine blk_drew ?_|refine blk_alloc ?_ _));refine blk_put (cs:=#[.string ((rd_T50 l0_1 x5_1).f0),.int .u8 ((rd_T50 l0_1 x5_1).f1.f0),.int .u8 0,.slice none 0 0]) ?_ 2 _ rfl;(with_reducible repeat (first|refine blk_drewN ?_ _|refine blk_drew ?_|refine blk_alloc ?_ _));refine blk_put (cs:=#[.string ((rd_T50 l0_1 x5_1).f0),.int .u8 0,.int .u8 0,.slice none 0 0]) ?_ 1 _ rfl;(with_reducible repeat (first|refine blk_drewN ?_ _|refine blk_drew ?_|refine blk_alloc ?_ _));refine blk_put (cs:=#[.string (⟨#[]⟩:ByteArray),.int .u8 0,.int .u8 0,.slice none 0 0]) ?_ 0 _ rfl;(with_reducible repeat (first|refine blk_drewN ?_ _|refine blk_drew ?_|refine blk_alloc ?_ _));exact BK320.out⟩,⟨b0_⟩⟩
 }
 {
 rw [if_neg c12] at H
 have c12b0:((((rd_T50 l0_1 x5_1).f2).length:Int)==20)=false:=beq_eq_false_iff_ne.mpr c12
 have c12b1:((((rd_T50 l0_1 x5_1).f2).length:Int) !=20)=true:=bne_iff_ne.mpr c12
 by_cases c15:(((rd_T50 l0_1 x5_1).f2).length:Int)=21
 {
 rw [if_pos c15] at H
 have c15b0:((((rd_T50 l0_1 x5_1).f2).length:Int)==21)=true:=beq_iff_eq.mpr c15
 have c15b1:((((rd_T50 l0_1 x5_1).f2).length:Int) !=21)=false:=bne_eq_false_iff_eq.mpr c15
 clear c15
 have H':=Aside0.mk H
 clear H
 have hnb16:=NB320_318.out
 have hnc16:=NB318_320.out
 have hcz17_0:w8.cell? ⟨gb320,0,none⟩=some (.string (⟨#[]⟩:ByteArray)):=(blk_cell BK320.out 0).trans rfl;have hcz17_1:w8.cell? ⟨gb320,1,none⟩=some (.int .u8 0):=(blk_cell BK320.out 1).trans rfl;have hcz17_2:w8.cell? ⟨gb320,2,none⟩=some (.int .u8 0):=(blk_cell BK320.out 2).trans rfl;have hcz17_3:w8.cell? ⟨gb320,3,none⟩=some (.slice none 0 0):=(blk_cell BK320.out 3).trans rfl
 have hfz17_0:=blk_frozen BK320.out 0
 have hfz17_1:=blk_frozen BK320.out 1
 have hfz17_2:=blk_frozen BK320.out 2
 have hfz17_3:=blk_frozen BK320.out 3
 go_wp2
 go_meet
 case rel=>exact ⟨_,(decide ((((rd_T50 l0_1 x5_1).f0).size:Int)>20)),r0_,H',⟨by have:=HK1.out;first|omega|exact Nat.le_refl _⟩,⟨k0_⟩,⟨by (with_reducible repeat (first|refine blk_drewN ?_ _|refine blk_drew ?_|refine blk_alloc ?_ _));refine blk_put (cs:=#[.string ((rd_T50 l0_1 x5_1).f0),.int .u8 ((rd_T50 l0_1 x5_1).f1.f0),.int .u8 ((rd_T50 l0_1 x5_1).f1.f1),.slice none 0 0]) ?_ 3 _ rfl;(with_reducible repeat (first|refine blk_drewN ?_ _|refine blk_drew ?_|refine blk_alloc ?_ _));refine blk_put (cs:=#[.string ((rd_T50 l0_1 x5_1).f0),.int .u8 ((rd_T50 l0_1 x5_1).f1.f0),.int .u8 0,.slice none 0 0]) ?_ 2 _ rfl;(with_reducible repeat (first|refine blk_drewN ?_ _|refine blk_drew ?_|refine blk_alloc ?_ _));refine blk_put (cs:=#[.string ((rd_T50 l0_1 x5_1).f0),.int .u8 0,.int .u8 0,.slice none 0 0]) ?_ 1 _ rfl;(with_reducible repeat (first|refine blk_drewN ?_ _|refine blk_drew ?_|refine blk_alloc ?_ _));refine blk_put (cs:=#[.string (⟨#[]⟩:ByteArray),.int .u8 0,.int .u8 0,.slice none 0 0]) ?_ 0 _ rfl;(with_reducible repeat (first|refine blk_drewN ?_ _|refine blk_drew ?_|refine blk_alloc ?_ _));exact BK320.out⟩,⟨b0_⟩⟩
 }
 {
 rw [if_neg c15] at H
 have c15b0:((((rd_T50 l0_1 x5_1).f2).length:Int)==21)=false:=beq_eq_false_iff_ne.mpr c15
 have c15b1:((((rd_T50 l0_1 x5_1).f2).length:Int) !=21)=true:=bne_iff_ne.mpr c15
 have H':=Aside0.mk H
 clear H
 have hnb18:=NB320_318.out
 have hnc18:=NB318_320.out
 have hcz19_0:w8.cell? ⟨gb320,0,none⟩=some (.string (⟨#[]⟩:ByteArray)):=(blk_cell BK320.out 0).trans rfl;have hcz19_1:w8.cell? ⟨gb320,1,none⟩=some (.int .u8 0):=(blk_cell BK320.out 1).trans rfl;have hcz19_2:w8.cell? ⟨gb320,2,none⟩=some (.int .u8 0):=(blk_cell BK320.out 2).trans rfl;have hcz19_3:w8.cell? ⟨gb320,3,none⟩=some (.slice none 0 0):=(blk_cell BK320.out 3).trans rfl
 have hfz19_0:=blk_frozen BK320.out 0
 have hfz19_1:=blk_frozen BK320.out 1
 have hfz19_2:=blk_frozen BK320.out 2
 have hfz19_3:=blk_frozen BK320.out 3
 go_wp2
 go_meet
 case rel=>exact ⟨_,(true),r0_,H',⟨by have:=HK1.out;first|omega|exact Nat.le_refl _⟩,⟨k0_⟩,⟨by (with_reducible repeat (first|refine blk_drewN ?_ _|refine blk_drew ?_|refine blk_alloc ?_ _));refine blk_put (cs:=#[.string ((rd_T50 l0_1 x5_1).f0),.int .u8 ((rd_T50 l0_1 x5_1).f1.f0),.int .u8 ((rd_T50 l0_1 x5_1).f1.f1),.slice none 0 0]) ?_ 3 _ rfl;(with_reducible repeat (first|refine blk_drewN ?_ _|refine blk_drew ?_|refine blk_alloc ?_ _));refine blk_put (cs:=#[.string ((rd_T50 l0_1 x5_1).f0),.int .u8 ((rd_T50 l0_1 x5_1).f1.f0),.int .u8 0,.slice none 0 0]) ?_ 2 _ rfl;(with_reducible repeat (first|refine blk_drewN ?_ _|refine blk_drew ?_|refine blk_alloc ?_ _));refine blk_put (cs:=#[.string ((rd_T50 l0_1 x5_1).f0),.int .u8 0,.int .u8 0,.slice none 0 0]) ?_ 1 _ rfl;(with_reducible repeat (first|refine blk_drewN ?_ _|refine blk_drew ?_|refine blk_alloc ?_ _));refine blk_put (cs:=#[.string (⟨#[]⟩:ByteArray),.int .u8 0,.int .u8 0,.slice none 0 0]) ?_ 0 _ rfl;(with_reducible repeat (first|refine blk_drewN ?_ _|refine blk_drew ?_|refine blk_alloc ?_ _));exact BK320.out⟩,⟨b0_⟩⟩
 }
 }
 }
 {
 rw [if_neg c11] at H
 have c11b0:decide (8<(((rd_T50 l0_1 x5_1).f2).length:Int))=false:=decide_eq_false c11
 have c11b1:decide (8<((rd_T50 l0_1 x5_1).f2).length)=false:=decide_eq_false (by omega)
 clear c11
 (first|rw [c11b0]|(simp only [i64_w,i32_w];rw [c11b0])|skip)
 have H':=Aside0.mk H
 clear H
 have hnb20:=NB320_318.out
 have hnc20:=NB318_320.out
 have hcz21_0:w8.cell? ⟨gb320,0,none⟩=some (.string (⟨#[]⟩:ByteArray)):=(blk_cell BK320.out 0).trans rfl;have hcz21_1:w8.cell? ⟨gb320,1,none⟩=some (.int .u8 0):=(blk_cell BK320.out 1).trans rfl;have hcz21_2:w8.cell? ⟨gb320,2,none⟩=some (.int .u8 0):=(blk_cell BK320.out 2).trans rfl;have hcz21_3:w8.cell? ⟨gb320,3,none⟩=some (.slice none 0 0):=(blk_cell BK320.out 3).trans rfl
 have hfz21_0:=blk_frozen BK320.out 0
 have hfz21_1:=blk_frozen BK320.out 1
 have hfz21_2:=blk_frozen BK320.out 2
 have hfz21_3:=blk_frozen BK320.out 3
 go_wp2
 go_meet
 case rel=>exact ⟨_,(decide ((((rd_T50 l0_1 x5_1).f0).size:Int)>20)),r0_,H',⟨by have:=HK1.out;first|omega|exact Nat.le_refl _⟩,⟨k0_⟩,⟨by (with_reducible repeat (first|refine blk_drewN ?_ _|refine blk_drew ?_|refine blk_alloc ?_ _));refine blk_put (cs:=#[.string ((rd_T50 l0_1 x5_1).f0),.int .u8 ((rd_T50 l0_1 x5_1).f1.f0),.int .u8 ((rd_T50 l0_1 x5_1).f1.f1),.slice none 0 0]) ?_ 3 _ rfl;(with_reducible repeat (first|refine blk_drewN ?_ _|refine blk_drew ?_|refine blk_alloc ?_ _));refine blk_put (cs:=#[.string ((rd_T50 l0_1 x5_1).f0),.int .u8 ((rd_T50 l0_1 x5_1).f1.f0),.int .u8 0,.slice none 0 0]) ?_ 2 _ rfl;(with_reducible repeat (first|refine blk_drewN ?_ _|refine blk_drew ?_|refine blk_alloc ?_ _));refine blk_put (cs:=#[.string ((rd_T50 l0_1 x5_1).f0),.int .u8 0,.int .u8 0,.slice none 0 0]) ?_ 1 _ rfl;(with_reducible repeat (first|refine blk_drewN ?_ _|refine blk_drew ?_|refine blk_alloc ?_ _));refine blk_put (cs:=#[.string (⟨#[]⟩:ByteArray),.int .u8 0,.int .u8 0,.slice none 0 0]) ?_ 0 _ rfl;(with_reducible repeat (first|refine blk_drewN ?_ _|refine blk_drew ?_|refine blk_alloc ?_ _));exact BK320.out⟩,⟨b0_⟩⟩
 }
  )
 case rest=>
  (
 clear HC6
 try clear c1
 try clear c2
 try clear p2
 try clear c3
 try clear p3
 try clear q3
 try clear hx3
 try clear c4
 try clear c4b0
 try clear c5
 try clear c5b0
 try clear c8
 try clear c9
 try clear c11
 try clear c11b0
 try clear c11b1
 try clear c12
 try clear c12b0
 try clear c12b1
 try clear c13
 try clear c15
 try clear c15b0
 try clear c15b1
 try clear c16
 try clear c18
 try clear c20
 try clear hcz10_0
 try clear hcz10_1
 try clear hcz10_2
 try clear hcz10_3
 try clear hcz14_0
 try clear hcz14_1
 try clear hcz14_2
 try clear hcz14_3
 try clear hcz17_0
 try clear hcz17_1
 try clear hcz17_2
 try clear hcz17_3
 try clear hcz19_0
 try clear hcz19_1
 try clear hcz19_2
 try clear hcz19_3
 try clear hcz21_0
 try clear hcz21_1
 try clear hcz21_2
 try clear hcz21_3
 try clear hcz7_0
 try clear hcz7_1
 try clear hfz10_0
 try clear hfz10_1
 try clear hfz10_2
 try clear hfz10_3
 try clear hfz14_0
 try clear hfz14_1
 try clear hfz14_2
 try clear hfz14_3
 try clear hfz17_0
 try clear hfz17_1
 try clear hfz17_2
 try clear hfz17_3
 try clear hfz19_0
 try clear hfz19_1
 try clear hfz19_2
 try clear hfz19_3
 try clear hfz21_0
 try clear hfz21_1
 try clear hfz21_2
 try clear hfz21_3
 try clear hfz7_0
 try clear hfz7_1
 try clear hx319_0
 try clear hx319_1
 try clear hx319_2
 try clear hx319_3
 try clear p2
 try clear p319
 try clear q319
 obtain ⟨kq,x41_5,rfl,HA,HJ5,BK318,BK320,HB⟩:=hcut
 cases kq with
 |zero=>exact absurd HA.out (by simp [bookplateref12_Few.j1])
 |succ kj5=>
  (
 have H:=HA.out
 clear HA
 simp only [bookplateref12_Few.j1] at H
 by_cases c22:x41_5=true
 {
 subst c22
 replace H:=tp_ H
 obtain rfl:=Option.some.inj H
 go_wp2
 go_ret
 exact ⟨r1_,b0_⟩
 }
 {
 replace c22:=Bool.eq_false_iff.mpr c22
 subst c22
 replace H:=fn_ H
 have H':=Aside0.mk H
 clear H
 go_wp2
 go_loopg [7] kj5 (fun kq v7 w'=>∃ (x7_3:Int),v7= .int .i64 x7_3∧Aside0 (bookplateref12_Few.l1 kq a1 x5_1 x7_3 a0_0 l0_1 ((rd_T50 l0_1 x5_1).f0) ((rd_T50 l0_1 x5_1).f1.f0) ((rd_T50 l0_1 x5_1).f1.f1) ((rd_T50 l0_1 x5_1).f2)=some r)∧Aside0 (kq≤kj5)∧Aside0 (w'.heap[gb318]?=some (.cells #[.int .i64 a0_0,(.slice (some ad319) l0_1.length c0_1)] 24 (0,0)))∧Aside0 (w'.heap[gb320]?=some (.cells #[.string ((rd_T50 l0_1 x5_1).f0),.int .u8 ((rd_T50 l0_1 x5_1).f1.f0),.int .u8 ((rd_T50 l0_1 x5_1).f1.f1),(.slice A319_3 ((rd_T50 l0_1 x5_1).f2).length c319_3)] 50 (0,0)))∧Aside0 (Below w.heap.size w w'))
 case atStart=>exact ⟨(0),r0_,H',⟨Nat.le_refl _⟩,⟨k0_⟩,⟨k0_⟩,⟨b0_⟩⟩
 case round=>
  (
 clear H'
 try clear c1
 try clear c2
 try clear p2
 try clear c3
 try clear p3
 try clear q3
 try clear hx3
 try clear c4
 try clear c4b0
 try clear c5
 try clear c5b0
 try clear c8
 try clear c9
 try clear c11
 try clear c11b0
 try clear c11b1
 try clear c12
 try clear c12b0
 try clear c12b1
 try clear c13
 try clear c15
 try clear c15b0
 try clear c15b1
 try clear c16
 try clear c18
 try clear c20
 try clear c22
 try clear hcz10_0
 try clear hcz10_1
 try clear hcz10_2
 try clear hcz10_3
 try clear hcz14_0
 try clear hcz14_1
 try clear hcz14_2
 try clear hcz14_3
 try clear hcz17_0
 try clear hcz17_1
 try clear hcz17_2
 try clear hcz17_3
 try clear hcz19_0
 try clear hcz19_1
 try clear hcz19_2
 try clear hcz19_3
 try clear hcz21_0
 try clear hcz21_1
 try clear hcz21_2
 try clear hcz21_3
 try clear hcz7_0
 try clear hcz7_1
 try clear hfz10_0
 try clear hfz10_1
 try clear hfz10_2
 try clear hfz10_3
 try clear hfz14_0
 try clear hfz14_1
 try clear hfz14_2
 try clear hfz14_3
 try clear hfz17_0
 try clear hfz17_1
 try clear hfz17_2
 try clear hfz17_3
 try clear hfz19_0
 try clear hfz19_1
 try clear hfz19_2
 try clear hfz19_3
 try clear hfz21_0
 try clear hfz21_1
 try clear hfz21_2
 try clear hfz21_3
 try clear hfz7_0
 try clear hfz7_1
 try clear hx319_0
 try clear hx319_1
 try clear hx319_2
 try clear hx319_3
 try clear p2
 try clear p3
 try clear p319
 try clear q3
 try clear q319
 obtain ⟨x7_3,rfl,HA,HK3,BK318,BK320,HB⟩:=hrel
 cases gk with
 |zero=>exact absurd HA.out (by simp [bookplateref12_Few.l1])
 |succ k3=>
  (
 have H:=HA.out
 clear HA
 simp only [bookplateref12_Few.l1] at H
 by_cases c23:x7_3<(((rd_T50 l0_1 x5_1).f2).length:Int)
 {
 rw [if_pos c23] at H
 have c23b0:decide (x7_3<(((rd_T50 l0_1 x5_1).f2).length:Int))=true:=decide_eq_true c23
 clear c23
 by_cases c24:0≤x7_3
 {
 rw [if_pos c24] at H
 have c24b0:decide (0≤x7_3)=true:=decide_eq_true c24
 clear c24
 by_cases c25:(((rd_T55 ((rd_T50 l0_1 x5_1).f2) x7_3).f1).size:Int)>80
 {
 rw [if_pos c25] at H
 have c25b0:decide (80<(((rd_T55 ((rd_T50 l0_1 x5_1).f2) x7_3).f1).size:Int))=true:=decide_eq_true c25
 have c25b1:decide (80<((rd_T55 ((rd_T50 l0_1 x5_1).f2) x7_3).f1).size)=true:=decide_eq_true (by omega)
 clear c25
 by_cases c26:(((rd_T55 ((rd_T50 l0_1 x5_1).f2) x7_3).f1).size:Int)<400
 {
 rw [if_pos c26] at H
 have c26b0:decide ((((rd_T55 ((rd_T50 l0_1 x5_1).f2) x7_3).f1).size:Int)<400)=true:=decide_eq_true c26
 have c26b1:decide (((rd_T55 ((rd_T50 l0_1 x5_1).f2) x7_3).f1).size<400)=true:=decide_eq_true (by omega)
 clear c26
 obtain rfl:=Option.some.inj H
 have hnb27:=NB320_318.out
 have hnc27:=NB318_320.out
 have hcz28_0:wr.cell? ⟨gb320,0,none⟩=some (.string ((rd_T50 l0_1 x5_1).f0)):=(blk_cell BK320.out 0).trans rfl;have hcz28_1:wr.cell? ⟨gb320,1,none⟩=some (.int .u8 ((rd_T50 l0_1 x5_1).f1.f0)):=(blk_cell BK320.out 1).trans rfl;have hcz28_2:wr.cell? ⟨gb320,2,none⟩=some (.int .u8 ((rd_T50 l0_1 x5_1).f1.f1)):=(blk_cell BK320.out 2).trans rfl;have hcz28_3:wr.cell? ⟨gb320,3,none⟩=some (.slice A319_3 ((rd_T50 l0_1 x5_1).f2).length c319_3):=(blk_cell BK320.out 3).trans rfl
 have hfz28_0:=blk_frozen BK320.out 0
 have hfz28_1:=blk_frozen BK320.out 1
 have hfz28_2:=blk_frozen BK320.out 2
 have hfz28_3:=blk_frozen BK320.out 3
 have p321:0≤(x7_3:Int):=od_
 have q321:x7_3<(((rd_T50 l0_1 x5_1).f2).length:Int):=od_
 obtain ⟨ad321,e321,hx321_0,hx321_1⟩:=at_T55 HR319_3.out x7_3 p321 q321
 cases e321
 replace hx321_0:=cel_ HB hx321_0
 replace hx321_1:=cel_ HB hx321_1
 replace p321:=eq_true p321
 replace q321:=eq_true q321
 have p322:0≤(x7_3:Int):=od_
 have q322:x7_3<(((rd_T50 l0_1 x5_1).f2).length:Int):=od_
 obtain ⟨ad322,e322,hx322_0,hx322_1⟩:=at_T55 HR319_3.out x7_3 p322 q322
 obtain rfl:ad321=ad322:=(by injection e322)
 replace hx322_0:=cel_ HB hx322_0
 replace hx322_1:=cel_ HB hx322_1
 replace p322:=eq_true p322
 replace q322:=eq_true q322
 go_wp2
 go_ret
 exact ⟨r1_,b0_⟩
 }
 {
 rw [if_neg c26] at H
 have c26b0:decide ((((rd_T55 ((rd_T50 l0_1 x5_1).f2) x7_3).f1).size:Int)<400)=false:=decide_eq_false c26
 have c26b1:decide (((rd_T55 ((rd_T50 l0_1 x5_1).f2) x7_3).f1).size<400)=false:=decide_eq_false (by omega)
 clear c26
 by_cases c29:(((rd_T55 ((rd_T50 l0_1 x5_1).f2) x7_3).f1).size:Int)>402
 {
 rw [if_pos c29] at H
 have c29b0:decide (402<(((rd_T55 ((rd_T50 l0_1 x5_1).f2) x7_3).f1).size:Int))=true:=decide_eq_true c29
 have c29b1:decide (402<((rd_T55 ((rd_T50 l0_1 x5_1).f2) x7_3).f1).size)=true:=decide_eq_true (by omega)
 clear c29
 obtain rfl:=Option.some.inj H
 have hnb30:=NB320_318.out
 have hnc30:=NB318_320.out
 have hcz31_0:wr.cell? ⟨gb320,0,none⟩=some (.string ((rd_T50 l0_1 x5_1).f0)):=(blk_cell BK320.out 0).trans rfl;have hcz31_1:wr.cell? ⟨gb320,1,none⟩=some (.int .u8 ((rd_T50 l0_1 x5_1).f1.f0)):=(blk_cell BK320.out 1).trans rfl;have hcz31_2:wr.cell? ⟨gb320,2,none⟩=some (.int .u8 ((rd_T50 l0_1 x5_1).f1.f1)):=(blk_cell BK320.out 2).trans rfl;have hcz31_3:wr.cell? ⟨gb320,3,none⟩=some (.slice A319_3 ((rd_T50 l0_1 x5_1).f2).length c319_3):=(blk_cell BK320.out 3).trans rfl
 have hfz31_0:=blk_frozen BK320.out 0
 have hfz31_1:=blk_frozen BK320.out 1
 have hfz31_2:=blk_frozen BK320.out 2
 have hfz31_3:=blk_frozen BK320.out 3
 have p321:0≤(x7_3:Int):=od_
 have q321:x7_3<(((rd_T50 l0_1 x5_1).f2).length:Int):=od_
 obtain ⟨ad321,e321,hx321_0,hx321_1⟩:=at_T55 HR319_3.out x7_3 p321 q321
 cases e321
 replace hx321_0:=cel_ HB hx321_0
 replace hx321_1:=cel_ HB hx321_1
 replace p321:=eq_true p321
 replace q321:=eq_true q321
 have p322:0≤(x7_3:Int):=od_
 have q322:x7_3<(((rd_T50 l0_1 x5_1).f2).length:Int):=od_
 obtain ⟨ad322,e322,hx322_0,hx322_1⟩:=at_T55 HR319_3.out x7_3 p322 q322
 obtain rfl:ad321=ad322:=(by injection e322)
 replace hx322_0:=cel_ HB hx322_0
 replace hx322_1:=cel_ HB hx322_1
 replace p322:=eq_true p322
 replace q322:=eq_true q322
 have p323:0≤(x7_3:Int):=od_
 have q323:x7_3<(((rd_T50 l0_1 x5_1).f2).length:Int):=od_
 obtain ⟨ad323,e323,hx323_0,hx323_1⟩:=at_T55 HR319_3.out x7_3 p323 q323
 obtain rfl:ad321=ad323:=(by injection e323)
 replace hx323_0:=cel_ HB hx323_0
 replace hx323_1:=cel_ HB hx323_1
 replace p323:=eq_true p323
 replace q323:=eq_true q323
 go_wp2
 go_ret
 exact ⟨r1_,b0_⟩
 }
 {
 rw [if_neg c29] at H
 have c29b0:decide (402<(((rd_T55 ((rd_T50 l0_1 x5_1).f2) x7_3).f1).size:Int))=false:=decide_eq_false c29
 have c29b1:decide (402<((rd_T55 ((rd_T50 l0_1 x5_1).f2) x7_3).f1).size)=false:=decide_eq_false (by omega)
 clear c29
 have H':=Aside0.mk H
 clear H
 have hnb32:=NB320_318.out
 have hnc32:=NB318_320.out
 have hcz33_0:wr.cell? ⟨gb320,0,none⟩=some (.string ((rd_T50 l0_1 x5_1).f0)):=(blk_cell BK320.out 0).trans rfl;have hcz33_1:wr.cell? ⟨gb320,1,none⟩=some (.int .u8 ((rd_T50 l0_1 x5_1).f1.f0)):=(blk_cell BK320.out 1).trans rfl;have hcz33_2:wr.cell? ⟨gb320,2,none⟩=some (.int .u8 ((rd_T50 l0_1 x5_1).f1.f1)):=(blk_cell BK320.out 2).trans rfl;have hcz33_3:wr.cell? ⟨gb320,3,none⟩=some (.slice A319_3 ((rd_T50 l0_1 x5_1).f2).length c319_3):=(blk_cell BK320.out 3).trans rfl
 have hfz33_0:=blk_frozen BK320.out 0
 have hfz33_1:=blk_frozen BK320.out 1
 have hfz33_2:=blk_frozen BK320.out 2
 have hfz33_3:=blk_frozen BK320.out 3
 have p321:0≤(x7_3:Int):=od_
 have q321:x7_3<(((rd_T50 l0_1 x5_1).f2).length:Int):=od_
 obtain ⟨ad321,e321,hx321_0,hx321_1⟩:=at_T55 HR319_3.out x7_3 p321 q321
 cases e321
 replace hx321_0:=cel_ HB hx321_0
 replace hx321_1:=cel_ HB hx321_1
 replace p321:=eq_true p321
 replace q321:=eq_true q321
 have p322:0≤(x7_3:Int):=od_
 have q322:x7_3<(((rd_T50 l0_1 x5_1).f2).length:Int):=od_
 obtain ⟨ad322,e322,hx322_0,hx322_1⟩:=at_T55 HR319_3.out x7_3 p322 q322
 obtain rfl:ad321=ad322:=(by injection e322)
 replace hx322_0:=cel_ HB hx322_0
 replace hx322_1:=cel_ HB hx322_1
 replace p322:=eq_true p322
 replace q322:=eq_true q322
 have p323:0≤(x7_3:Int):=od_
 have q323:x7_3<(((rd_T50 l0_1 x5_1).f2).length:Int):=od_
 obtain ⟨ad323,e323,hx323_0,hx323_1⟩:=at_T55 HR319_3.out x7_3 p323 q323
 obtain rfl:ad321=ad323:=(by injection e323)
 replace hx323_0:=cel_ HB hx323_0
 replace hx323_1:=cel_ HB hx323_1
 replace p323:=eq_true p323
 replace q323:=eq_true q323
 go_wp2
 go_roundg k3
 case measure=>have:=HK1.out;have:=HJ5.out;have:=HK3.out;omega
 case rel=>exact ⟨(wrap64 (x7_3+1)),r0_,H',⟨by have:=HK1.out;have:=HJ5.out;have:=HK3.out;omega⟩,⟨k0_⟩,⟨k0_⟩,⟨b0_⟩⟩
 }
 }
 }
 {
 rw [if_neg c25] at H
 have c25b0:decide (80<(((rd_T55 ((rd_T50 l0_1 x5_1).f2) x7_3).f1).size:Int))=false:=decide_eq_false c25
 have c25b1:decide (80<((rd_T55 ((rd_T50 l0_1 x5_1).f2) x7_3).f1).size)=false:=decide_eq_false (by omega)
 clear c25
 by_cases c34:(((rd_T55 ((rd_T50 l0_1 x5_1).f2) x7_3).f1).size:Int)>402
 {
 rw [if_pos c34] at H
 have c34b0:decide (402<(((rd_T55 ((rd_T50 l0_1 x5_1).f2) x7_3).f1).size:Int))=true:=decide_eq_true c34
 have c34b1:decide (402<((rd_T55 ((rd_T50 l0_1 x5_1).f2) x7_3).f1).size)=true:=decide_eq_true (by omega)
 clear c34
 obtain rfl:=Option.some.inj H
 have hnb35:=NB320_318.out
 have hnc35:=NB318_320.out
 have hcz36_0:wr.cell? ⟨gb320,0,none⟩=some (.string ((rd_T50 l0_1 x5_1).f0)):=(blk_cell BK320.out 0).trans rfl;have hcz36_1:wr.cell? ⟨gb320,1,none⟩=some (.int .u8 ((rd_T50 l0_1 x5_1).f1.f0)):=(blk_cell BK320.out 1).trans rfl;have hcz36_2:wr.cell? ⟨gb320,2,none⟩=some (.int .u8 ((rd_T50 l0_1 x5_1).f1.f1)):=(blk_cell BK320.out 2).trans rfl;have hcz36_3:wr.cell? ⟨gb320,3,none⟩=some (.slice A319_3 ((rd_T50 l0_1 x5_1).f2).length c319_3):=(blk_cell BK320.out 3).trans rfl
 have hfz36_0:=blk_frozen BK320.out 0
 have hfz36_1:=blk_frozen BK320.out 1
 have hfz36_2:=blk_frozen BK320.out 2
 have hfz36_3:=blk_frozen BK320.out 3
 have p321:0≤(x7_3:Int):=od_
 have q321:x7_3<(((rd_T50 l0_1 x5_1).f2).length:Int):=od_
 obtain ⟨ad321,e321,hx321_0,hx321_1⟩:=at_T55 HR319_3.out x7_3 p321 q321
 cases e321
 replace hx321_0:=cel_ HB hx321_0
 replace hx321_1:=cel_ HB hx321_1
 replace p321:=eq_true p321
 replace q321:=eq_true q321
 have p324:0≤(x7_3:Int):=od_
 have q324:x7_3<(((rd_T50 l0_1 x5_1).f2).length:Int):=od_
 obtain ⟨ad324,e324,hx324_0,hx324_1⟩:=at_T55 HR319_3.out x7_3 p324 q324
 obtain rfl:ad321=ad324:=(by injection e324)
 replace hx324_0:=cel_ HB hx324_0
 replace hx324_1:=cel_ HB hx324_1
 replace p324:=eq_true p324
 replace q324:=eq_true q324
 go_wp2
 go_ret
 exact ⟨r1_,b0_⟩
 }
 {
 rw [if_neg c34] at H
 have c34b0:decide (402<(((rd_T55 ((rd_T50 l0_1 x5_1).f2) x7_3).f1).size:Int))=false:=decide_eq_false c34
 have c34b1:decide (402<((rd_T55 ((rd_T50 l0_1 x5_1).f2) x7_3).f1).size)=false:=decide_eq_false (by omega)
 clear c34
 have H':=Aside0.mk H
 clear H
 have hnb37:=NB320_318.out
 have hnc37:=NB318_320.out
 have hcz38_0:wr.cell? ⟨gb320,0,none⟩=some (.string ((rd_T50 l0_1 x5_1).f0)):=(blk_cell BK320.out 0).trans rfl;have hcz38_1:wr.cell? ⟨gb320,1,none⟩=some (.int .u8 ((rd_T50 l0_1 x5_1).f1.f0)):=(blk_cell BK320.out 1).trans rfl;have hcz38_2:wr.cell? ⟨gb320,2,none⟩=some (.int .u8 ((rd_T50 l0_1 x5_1).f1.f1)):=(blk_cell BK320.out 2).trans rfl;have hcz38_3:wr.cell? ⟨gb320,3,none⟩=some (.slice A319_3 ((rd_T50 l0_1 x5_1).f2).length c319_3):=(blk_cell BK320.out 3).trans rfl
 have hfz38_0:=blk_frozen BK320.out 0
 have hfz38_1:=blk_frozen BK320.out 1
 have hfz38_2:=blk_frozen BK320.out 2
 have hfz38_3:=blk_frozen BK320.out 3
 have p321:0≤(x7_3:Int):=od_
 have q321:x7_3<(((rd_T50 l0_1 x5_1).f2).length:Int):=od_
 obtain ⟨ad321,e321,hx321_0,hx321_1⟩:=at_T55 HR319_3.out x7_3 p321 q321
 cases e321
 replace hx321_0:=cel_ HB hx321_0
 replace hx321_1:=cel_ HB hx321_1
 replace p321:=eq_true p321
 replace q321:=eq_true q321
 have p324:0≤(x7_3:Int):=od_
 have q324:x7_3<(((rd_T50 l0_1 x5_1).f2).length:Int):=od_
 obtain ⟨ad324,e324,hx324_0,hx324_1⟩:=at_T55 HR319_3.out x7_3 p324 q324
 obtain rfl:ad321=ad324:=(by injection e324)
 replace hx324_0:=cel_ HB hx324_0
 replace hx324_1:=cel_ HB hx324_1
 replace p324:=eq_true p324
 replace q324:=eq_true q324
 go_wp2
 go_roundg k3
 case measure=>have:=HK1.out;have:=HJ5.out;have:=HK3.out;omega
 case rel=>exact ⟨(wrap64 (x7_3+1)),r0_,H',⟨by have:=HK1.out;have:=HJ5.out;have:=HK3.out;omega⟩,⟨k0_⟩,⟨k0_⟩,⟨b0_⟩⟩
 }
 }
 }
 {
 rw [if_neg c24] at H
 exact absurd H (by simp)
 }
 }
 {
 rw [if_neg c23] at H
 have c23b0:decide (x7_3<(((rd_T50 l0_1 x5_1).f2).length:Int))=false:=decide_eq_false c23
 clear c23
 have H':=Aside0.mk H
 clear H
 have hnb39:=NB320_318.out
 have hnc39:=NB318_320.out
 have hcz40_0:wr.cell? ⟨gb320,0,none⟩=some (.string ((rd_T50 l0_1 x5_1).f0)):=(blk_cell BK320.out 0).trans rfl;have hcz40_1:wr.cell? ⟨gb320,1,none⟩=some (.int .u8 ((rd_T50 l0_1 x5_1).f1.f0)):=(blk_cell BK320.out 1).trans rfl;have hcz40_2:wr.cell? ⟨gb320,2,none⟩=some (.int .u8 ((rd_T50 l0_1 x5_1).f1.f1)):=(blk_cell BK320.out 2).trans rfl;have hcz40_3:wr.cell? ⟨gb320,3,none⟩=some (.slice A319_3 ((rd_T50 l0_1 x5_1).f2).length c319_3):=(blk_cell BK320.out 3).trans rfl
 have hfz40_0:=blk_frozen BK320.out 0
 have hfz40_1:=blk_frozen BK320.out 1
 have hfz40_2:=blk_frozen BK320.out 2
 have hfz40_3:=blk_frozen BK320.out 3
 go_wp2
 go_roundg k3
 case measure=>have:=HK1.out;have:=HJ5.out;have:=HK3.out;omega
 case rel=>exact ⟨(wrap64 (x5_1+1)),r0_,H',⟨by have:=HK1.out;have:=HJ5.out;have:=HK3.out;omega⟩,⟨k0_⟩,⟨b0_⟩⟩
 }
  )
  )
 }
  )
  )
 }
 {
 rw [if_neg c5] at H
 exact absurd H (by simp)
 }
 }
 {
 rw [if_neg c4] at H
 have c4b0:decide (x5_1<(l0_1.length:Int))=false:=decide_eq_false c4
 clear c4
 obtain rfl:=Option.some.inj H
 have hcz41_0:wr.cell? ⟨gb318,0,none⟩=some (.int .i64 a0_0):=(blk_cell BK318.out 0).trans rfl;have hcz41_1:wr.cell? ⟨gb318,1,none⟩=some (.slice A0_1 l0_1.length c0_1):=(blk_cell BK318.out 1).trans rfl
 have hfz41_0:=blk_frozen BK318.out 0
 have hfz41_1:=blk_frozen BK318.out 1
 go_wp2
 go_ret
 exact ⟨r1_,b0_⟩
 }
  )
  )
end
end Go.Proofs.YtdlolaognnbhpaaDoor.Pr
namespace Go.Proofs.YtdlolaognnbhpaaDoor.Pr
open Go.RowKit Go.Proofs.YtdlolaognnbhpaaDoorW.PrintWords Go.Proofs.YtdlolaognnbhpaaDoorW.PrintLast Go.Proofs.YtdlolaognnbhpaaDoorW.PrintMore
noncomputable section
attribute [local go_sem] max2_int min2_int max_two min_two max_three min_three max_four min_four
set_option linter.unusedVariables false
set_option linter.unusedSimpArgs false
def bookplateref12_isDigit.f (a0:Int):Option (Bool):=if a0≥48 then (some (decide (a0≤57))) else (some false)
set_option maxHeartbeats 8000000 in
set_option maxRecDepth 100000 in
theorem bookplateref12_isDigit.calls (a0:Int) (r:Bool) (w:World) (h:bookplateref12_isDigit.f a0=some r):
 Calls Tryd.prog 64 #[.int .u8 a0] w fun e w'=>e= .returned (.bool r)∧Drawn0 w w':=by
 have H:(if a0≥48 then (some (decide (a0≤57))) else (some false))=some r:=h
 clear h
 by_cases c2:a0≥48
 {
 rw [if_pos c2] at H
 have c2b0:decide (48≤a0)=true:=decide_eq_true c2
 clear c2
 obtain rfl:=Option.some.inj H
 go_enter Tryd.func64,Tryd.ntmps64
 go_wp2
 go_ret
 exact ⟨r0_,d0_⟩
 }
 {
 rw [if_neg c2] at H
 have c2b0:decide (48≤a0)=false:=decide_eq_false c2
 clear c2
 obtain rfl:=Option.some.inj H
 go_enter Tryd.func64,Tryd.ntmps64
 go_wp2
 go_ret
 exact ⟨r0_,d0_⟩
 }
def bookplateref12_ValidTag.f (a0:ByteArray):Option (Bool):=if (a0.size:Int)=3 then (if 0<(a0.size:Int) then ((bookplateref12_isDigit.f (bt a0 0)).bind fun t325=>(if t325=true then (if 1<(a0.size:Int) then ((bookplateref12_isDigit.f (bt a0 1)).bind fun t326=>(if t326=true then (if 2<(a0.size:Int) then ((bookplateref12_isDigit.f (bt a0 2)).bind fun t327=>(if t327=true then (some (a0.toList !=([48,48,48]:List UInt8))) else (some false))) else (none)) else (some false))) else (none)) else (some false))) else (none)) else (some false)
set_option maxHeartbeats 8000000 in
set_option maxRecDepth 100000 in
theorem bookplateref12_ValidTag.calls (a0:ByteArray) (r:Bool) (w:World) (h:bookplateref12_ValidTag.f a0=some r):
 Calls Tryd.prog 52 #[.string a0] w fun e w'=>e= .returned (.bool r)∧Drawn0 w w':=by
 have H:(if (a0.size:Int)=3 then (if 0<(a0.size:Int) then ((bookplateref12_isDigit.f (bt a0 0)).bind fun t325=>(if t325=true then (if 1<(a0.size:Int) then ((bookplateref12_isDigit.f (bt a0 1)).bind fun t326=>(if t326=true then (if 2<(a0.size:Int) then ((bookplateref12_isDigit.f (bt a0 2)).bind fun t327=>(if t327=true then (some (a0.toList !=([48,48,48]:List UInt8))) else (some false))) else (none)) else (some false))) else (none)) else (some false))) else (none)) else (some false))=some r:=h
 clear h
 by_cases c2:(a0.size:Int)=3
 {
 rw [if_pos c2] at H
 have c2b0:((a0.size:Int)==3)=true:=beq_iff_eq.mpr c2
 have c2b1:((a0.size:Int) !=3)=false:=bne_eq_false_iff_eq.mpr c2
 clear c2
 by_cases c3:0<(a0.size:Int)
 {
 rw [if_pos c3] at H
 have c3b0:decide (0<(a0.size:Int))=true:=decide_eq_true c3
 have c3b1:decide (0<a0.size)=true:=decide_eq_true (by omega)
 clear c3
 obtain ⟨t325,A5,H⟩:=ob_ H
 by_cases c6:t325=true
 {
 subst c6
 replace H:=tp_ H
 by_cases c7:1<(a0.size:Int)
 {
 rw [if_pos c7] at H
 have c7b0:decide (1<(a0.size:Int))=true:=decide_eq_true c7
 have c7b1:decide (1<a0.size)=true:=decide_eq_true (by omega)
 clear c7
 obtain ⟨t326,A9,H⟩:=ob_ H
 by_cases c10:t326=true
 {
 subst c10
 replace H:=tp_ H
 by_cases c11:2<(a0.size:Int)
 {
 rw [if_pos c11] at H
 have c11b0:decide (2<(a0.size:Int))=true:=decide_eq_true c11
 have c11b1:decide (2<a0.size)=true:=decide_eq_true (by omega)
 clear c11
 obtain ⟨t327,A13,H⟩:=ob_ H
 by_cases c14:t327=true
 {
 subst c14
 replace H:=tp_ H
 obtain rfl:=Option.some.inj H
 have p4:0≤(0:Int):=(by omega)
 have q4:0<a0.size:=(by have:(0:Int)<(a0.size:Int):=od_;omega)
 have hx4:∀ h:0<a0.size,((a0[0]'h).toNat:Int)=bt a0 0:=bt_at a0 0
 clear p4
 have qi4:(0<(a0.size:Int))=True:=eq_true od_
 replace q4:=eq_true q4
 go_enter Tryd.func52,Tryd.ntmps52
 go_wp2_with (first|(go_at_call 64;(with_reducible refine (bookplateref12_isDigit.calls (bt a0 0) true _ A5.out).mono ?_);rintro e w' ⟨rfl,⟨nd,rfl⟩⟩;have p8:0≤(1:Int):=(by omega);have q8:1<a0.size:=(by have:(1:Int)<(a0.size:Int):=od_;omega);have hx8:∀ h:1<a0.size,((a0[1]'h).toNat:Int)=bt a0 1:=bt_at a0 1;clear p8;have qi8:(1<(a0.size:Int))=True:=eq_true od_;replace q8:=eq_true q8)|(go_at_call 64;(with_reducible refine (bookplateref12_isDigit.calls (bt a0 1) true _ A9.out).mono ?_);rintro e w' ⟨rfl,⟨nd,rfl⟩⟩;have p12:0≤(2:Int):=(by omega);have q12:2<a0.size:=(by have:(2:Int)<(a0.size:Int):=od_;omega);have hx12:∀ h:2<a0.size,((a0[2]'h).toNat:Int)=bt a0 2:=bt_at a0 2;clear p12;have qi12:(2<(a0.size:Int))=True:=eq_true od_;replace q12:=eq_true q12)|(go_at_call 64;(with_reducible refine (bookplateref12_isDigit.calls (bt a0 2) true _ A13.out).mono ?_);rintro e w' ⟨rfl,⟨nd,rfl⟩⟩))
 go_ret
 exact ⟨r0_,d0_⟩
 }
 {
 replace c14:=Bool.eq_false_iff.mpr c14
 subst c14
 replace H:=fn_ H
 obtain rfl:=Option.some.inj H
 have p4:0≤(0:Int):=(by omega)
 have q4:0<a0.size:=(by have:(0:Int)<(a0.size:Int):=od_;omega)
 have hx4:∀ h:0<a0.size,((a0[0]'h).toNat:Int)=bt a0 0:=bt_at a0 0
 clear p4
 have qi4:(0<(a0.size:Int))=True:=eq_true od_
 replace q4:=eq_true q4
 go_enter Tryd.func52,Tryd.ntmps52
 go_wp2_with (first|(go_at_call 64;(with_reducible refine (bookplateref12_isDigit.calls (bt a0 0) true _ A5.out).mono ?_);rintro e w' ⟨rfl,⟨nd,rfl⟩⟩;have p8:0≤(1:Int):=(by omega);have q8:1<a0.size:=(by have:(1:Int)<(a0.size:Int):=od_;omega);have hx8:∀ h:1<a0.size,((a0[1]'h).toNat:Int)=bt a0 1:=bt_at a0 1;clear p8;have qi8:(1<(a0.size:Int))=True:=eq_true od_;replace q8:=eq_true q8)|(go_at_call 64;(with_reducible refine (bookplateref12_isDigit.calls (bt a0 1) true _ A9.out).mono ?_);rintro e w' ⟨rfl,⟨nd,rfl⟩⟩;have p12:0≤(2:Int):=(by omega);have q12:2<a0.size:=(by have:(2:Int)<(a0.size:Int):=od_;omega);have hx12:∀ h:2<a0.size,((a0[2]'h).toNat:Int)=bt a0 2:=bt_at a0 2;clear p12;have qi12:(2<(a0.size:Int))=True:=eq_true od_;replace q12:=eq_true q12)|(go_at_call 64;(with_reducible refine (bookplateref12_isDigit.calls (bt a0 2) false _ A13.out).mono ?_);rintro e w' ⟨rfl,⟨nd,rfl⟩⟩))
 go_ret
 exact ⟨r0_,d0_⟩
 }
 }
 {
 rw [if_neg c11] at H
 exact absurd H (by simp)
 }
 }
 {
 replace c10:=Bool.eq_false_iff.mpr c10
 subst c10
 replace H:=fn_ H
 obtain rfl:=Option.some.inj H
 have p4:0≤(0:Int):=(by omega)
 have q4:0<a0.size:=(by have:(0:Int)<(a0.size:Int):=od_;omega)
 have hx4:∀ h:0<a0.size,((a0[0]'h).toNat:Int)=bt a0 0:=bt_at a0 0
 clear p4
 have qi4:(0<(a0.size:Int))=True:=eq_true od_
 replace q4:=eq_true q4
 go_enter Tryd.func52,Tryd.ntmps52
 go_wp2_with (first|(go_at_call 64;(with_reducible refine (bookplateref12_isDigit.calls (bt a0 0) true _ A5.out).mono ?_);rintro e w' ⟨rfl,⟨nd,rfl⟩⟩;have p8:0≤(1:Int):=(by omega);have q8:1<a0.size:=(by have:(1:Int)<(a0.size:Int):=od_;omega);have hx8:∀ h:1<a0.size,((a0[1]'h).toNat:Int)=bt a0 1:=bt_at a0 1;clear p8;have qi8:(1<(a0.size:Int))=True:=eq_true od_;replace q8:=eq_true q8)|(go_at_call 64;(with_reducible refine (bookplateref12_isDigit.calls (bt a0 1) false _ A9.out).mono ?_);rintro e w' ⟨rfl,⟨nd,rfl⟩⟩))
 go_ret
 exact ⟨r0_,d0_⟩
 }
 }
 {
 rw [if_neg c7] at H
 exact absurd H (by simp)
 }
 }
 {
 replace c6:=Bool.eq_false_iff.mpr c6
 subst c6
 replace H:=fn_ H
 obtain rfl:=Option.some.inj H
 have p4:0≤(0:Int):=(by omega)
 have q4:0<a0.size:=(by have:(0:Int)<(a0.size:Int):=od_;omega)
 have hx4:∀ h:0<a0.size,((a0[0]'h).toNat:Int)=bt a0 0:=bt_at a0 0
 clear p4
 have qi4:(0<(a0.size:Int))=True:=eq_true od_
 replace q4:=eq_true q4
 go_enter Tryd.func52,Tryd.ntmps52
 go_wp2_with (first|(go_at_call 64;(with_reducible refine (bookplateref12_isDigit.calls (bt a0 0) false _ A5.out).mono ?_);rintro e w' ⟨rfl,⟨nd,rfl⟩⟩))
 go_ret
 exact ⟨r0_,d0_⟩
 }
 }
 {
 rw [if_neg c3] at H
 exact absurd H (by simp)
 }
 }
 {
 rw [if_neg c2] at H
 have c2b0:((a0.size:Int)==3)=false:=beq_eq_false_iff_ne.mpr c2
 have c2b1:((a0.size:Int) !=3)=true:=bne_iff_ne.mpr c2
 obtain rfl:=Option.some.inj H
 go_enter Tryd.func52,Tryd.ntmps52
 go_wp2
 go_ret
 exact ⟨r0_,d0_⟩
 }
def bookplateref12_isCode.f (a0:Int):Option (Bool):=(bookplateref12_isDigit.f a0).bind fun t328=>(if t328=true then (some true) else (if a0≥97 then (some (decide (a0≤122))) else (some false)))
set_option maxHeartbeats 8000000 in
set_option maxRecDepth 100000 in
theorem bookplateref12_isCode.calls (a0:Int) (r:Bool) (w:World) (h:bookplateref12_isCode.f a0=some r):
 Calls Tryd.prog 53 #[.int .u8 a0] w fun e w'=>e= .returned (.bool r)∧Drawn0 w w':=by
 have H:((bookplateref12_isDigit.f a0).bind fun t328=>(if t328=true then (some true) else (if a0≥97 then (some (decide (a0≤122))) else (some false))))=some r:=h
 clear h
 obtain ⟨t328,A2,H⟩:=ob_ H
 by_cases c3:t328=true
 {
 subst c3
 replace H:=tp_ H
 obtain rfl:=Option.some.inj H
 go_enter Tryd.func53,Tryd.ntmps53
 go_wp2_with (first|((with_reducible refine gate_callee (f:=64) rfl ?_);refine gl_ (some 4) Tryd.func64 #[.int .u8 a0] ?_;(with_reducible refine (bookplateref12_isDigit.calls a0 true _ A2.out).mono ?_);rintro e w' ⟨rfl,⟨nd,rfl⟩⟩;refine ⟨_,rfl,?_⟩))
 go_ret
 exact ⟨r0_,d0_⟩
 }
 {
 replace c3:=Bool.eq_false_iff.mpr c3
 subst c3
 replace H:=fn_ H
 by_cases c4:a0≥97
 {
 rw [if_pos c4] at H
 have c4b0:decide (97≤a0)=true:=decide_eq_true c4
 clear c4
 obtain rfl:=Option.some.inj H
 go_enter Tryd.func53,Tryd.ntmps53
 go_wp2_with (first|((with_reducible refine gate_callee (f:=64) rfl ?_);refine gl_ (some 4) Tryd.func64 #[.int .u8 a0] ?_;(with_reducible refine (bookplateref12_isDigit.calls a0 false _ A2.out).mono ?_);rintro e w' ⟨rfl,⟨nd,rfl⟩⟩;refine ⟨_,rfl,?_⟩))
 go_ret
 exact ⟨r0_,d0_⟩
 }
 {
 rw [if_neg c4] at H
 have c4b0:decide (97≤a0)=false:=decide_eq_false c4
 clear c4
 obtain rfl:=Option.some.inj H
 go_enter Tryd.func53,Tryd.ntmps53
 go_wp2_with (first|((with_reducible refine gate_callee (f:=64) rfl ?_);refine gl_ (some 4) Tryd.func64 #[.int .u8 a0] ?_;(with_reducible refine (bookplateref12_isDigit.calls a0 false _ A2.out).mono ?_);rintro e w' ⟨rfl,⟨nd,rfl⟩⟩;refine ⟨_,rfl,?_⟩))
 go_ret
 exact ⟨r0_,d0_⟩
 }
 }
end
end Go.Proofs.YtdlolaognnbhpaaDoor.Pr
