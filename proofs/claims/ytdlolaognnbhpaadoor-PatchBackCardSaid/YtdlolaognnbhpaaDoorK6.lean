/- A part of the proof of laws of this seat: PatchBack, PatchDiff, PatchLeast, PatchMetric. Conditions: none of our own. -/
import Derived.Test.YtdlolaognnbhpaaDoorK4
namespace Go.Proofs.YtdlolaognnbhpaaDoor.Pr
open Go.RowKit Go.Proofs.YtdlolaognnbhpaaDoorW.PrintWords Go.Proofs.YtdlolaognnbhpaaDoorW.PrintLast Go.Proofs.YtdlolaognnbhpaaDoorW.PrintMore
noncomputable section
attribute [local go_sem] max2_int min2_int max_two min_two max_three min_three max_four min_four
set_option linter.unusedVariables false
set_option linter.unusedSimpArgs false
def api_Field__v38.l0:Nat→List (S50)→List (S50)→Int→Int→Option (Bool)
 |0,_,_,_,_=>none
 |k+1,x1,x15,x16,x17=>if x17<x16 then (if 0≤x17 then (if x17<(x15.length:Int) then (if x17<(x1.length:Int) then ((patch_same.f k ((rd_T50 x15 x17).f0) ((rd_T50 x15 x17).f1.f0) ((rd_T50 x15 x17).f1.f1) ((rd_T50 x15 x17).f2) ((rd_T50 x1 x17).f0) ((rd_T50 x1 x17).f1.f0) ((rd_T50 x1 x17).f1.f1) ((rd_T50 x1 x17).f2)).bind fun t134=>(if t134=true then (api_Field__v38.l0 k x1 x15 x16 (wrap64 (x17+1))) else (some false))) else (none)) else (none)) else (none)) else (some true)
def api_Field__v38.f (k:Nat) (l0:List (S50)) (l1:List (S50)):Option (Bool):=if (l0.length:Int)=(l1.length:Int) then (api_Field__v38.l0 k l1 l0 (l0.length:Int) 0) else (some false)
set_option maxHeartbeats 8000000 in
set_option maxRecDepth 100000 in
theorem api_Field__v38.calls (k:Nat) (A0:Option Addr) (c0:Nat) (l0:List (S50)) (A1:Option Addr) (c1:Nat) (l1:List (S50)) (r:Bool) (w:World) (hr0:Kd.C k50 w A0 l0.length l0) (hc0:l0.length≤c0) (hr1:Kd.C k50 w A1 l1.length l1) (hc1:l1.length≤c1) (h:api_Field__v38.f k l0 l1=some r):
 Calls Tryd.prog 58 #[.slice A0 l0.length c0,.slice A1 l1.length c1,.func (.func 38) #[] #[]] w fun e w'=>e= .returned (.bool r)∧Below w.heap.size w w':=by
 have hu50:=Tryd.underlying50
 have HR0:=Aside0.mk hr0
 have HC0:=Aside0.mk hc0
 clear hr0 hc0
 have HR1:=Aside0.mk hr1
 have HC1:=Aside0.mk hc1
 clear hr1 hc1
 have HB:=Aside0.mk (Below.refl w.heap.size w)
 have H:(if (l0.length:Int)=(l1.length:Int) then (api_Field__v38.l0 k l1 l0 (l0.length:Int) 0) else (some false))=some r:=h
 clear h
 by_cases c3:(l0.length:Int)=(l1.length:Int)
 {
 rw [if_pos c3] at H
 have c3b0:((l0.length:Int)==(l1.length:Int))=true:=beq_iff_eq.mpr c3
 have c3b1:((l0.length:Int) !=(l1.length:Int))=false:=bne_eq_false_iff_eq.mpr c3
 have c3b2:(l0.length==l1.length)=true:=by first|simpa using c3|(simp at c3⊢;omega)
 clear c3
 have H':=Aside0.mk H
 clear H
 go_enter Tryd.func58,Tryd.ntmps58
 go_wp2
 go_loopg [17] k (fun kq v17 w'=>∃ (x17_1:Int),v17= .int .i64 x17_1∧Aside0 (api_Field__v38.l0 kq l1 l0 (l0.length:Int) x17_1=some r)∧Aside0 (kq≤k)∧Aside0 (Below w.heap.size w w'))
 case atStart=>exact ⟨(0),r0_,H',⟨Nat.le_refl _⟩,⟨b0_⟩⟩
 case round=>
  (
 clear H'
 try clear c1
 try clear p2
 try clear c3
 try clear c3b0
 try clear c3b1
 try clear c3b2
 obtain ⟨x17_1,rfl,HA,HK1,HB⟩:=hrel
 cases gk with
 |zero=>exact absurd HA.out (by simp [api_Field__v38.l0])
 |succ k1=>
  (
 have H:=HA.out
 clear HA
 simp only [api_Field__v38.l0] at H
 by_cases c4:x17_1<(l0.length:Int)
 {
 rw [if_pos c4] at H
 have c4b0:decide (x17_1<(l0.length:Int))=true:=decide_eq_true c4
 clear c4
 by_cases c5:0≤x17_1
 {
 rw [if_pos c5] at H
 have c5b0:decide (0≤x17_1)=true:=decide_eq_true c5
 clear c5
 by_cases c6:x17_1<(l0.length:Int)
 {
 rw [if_pos c6] at H
 have c6b0:decide (x17_1<(l0.length:Int))=true:=decide_eq_true c6
 clear c6
 by_cases c7:x17_1<(l1.length:Int)
 {
 rw [if_pos c7] at H
 have c7b0:decide (x17_1<(l1.length:Int))=true:=decide_eq_true c7
 clear c7
 obtain ⟨t134,A8,H⟩:=ob_ H
 by_cases c9:t134=true
 {
 subst c9
 replace H:=tp_ H
 have H':=Aside0.mk H
 clear H
 have p130:0≤(x17_1:Int):=od_
 have q130:x17_1<(l0.length:Int):=od_
 obtain ⟨ad130,A130_3,c130_3,e130,hx130_0,hx130_1,hx130_2,hx130_3,hl130_3,hi130_3⟩:=at_T50 HR0.out x17_1 p130 q130
 cases e130
 replace hx130_0:=cel_ HB hx130_0
 replace hx130_1:=cel_ HB hx130_1
 replace hx130_2:=cel_ HB hx130_2
 replace hx130_3:=cel_ HB hx130_3
 have HR130_3:=Aside0.mk hi130_3
 have HC130_3:=Aside0.mk hl130_3
 clear hi130_3 hl130_3
 replace p130:=eq_true p130
 replace q130:=eq_true q130
 go_wp2_with (first|((with_reducible refine gate_dst (N:=8) rfl ?_);refine box_event ?hg (N:=8) ?hd (cs:=#[.string (⟨#[]⟩:ByteArray),.int .u8 0,.int .u8 0,.slice none 0 0]) (t:=50) ?hr ?_;(case hd=>rfl);(case hg=>rfl);(case hr=>first|(go_simp;done)|(go_simp;rfl));intro gb131 hg w10 hbox hb;have n_:=as4_ (below_step b0_ hb) (hbox) ((g0_ hg b0_:w.heap.size≤gb131)) ((g0_ hg b0_:w.heap.size≤gb131));clear HB;obtain ⟨HB,BK131,GW131,GE131⟩:=n_;clear hb hbox hg;obtain ⟨hcz11_0,hcz11_1,hcz11_2,hcz11_3,hfz11_0,hfz11_1,hfz11_2,hfz11_3⟩:=ce4_ BK131;have p132:0≤(x17_1:Int):=od_;have q132:x17_1<(l1.length:Int):=od_;obtain ⟨ad132,A132_3,c132_3,e132,hx132_0,hx132_1,hx132_2,hx132_3,hl132_3,hi132_3⟩:=at_T50 HR1.out x17_1 p132 q132;cases e132;have hn132_0:ad132.block≠gb131:=Nat.ne_of_lt (Nat.lt_of_lt_of_le (by have:=World.block_lt_of_cell? _ _ hx132_0;first|rwa [add_block] at this|exact this) GW131.out);have hn132_1:ad132.block≠gb131:=Nat.ne_of_lt (Nat.lt_of_lt_of_le (by have:=World.block_lt_of_cell? _ _ hx132_0;first|rwa [add_block] at this|exact this) GW131.out);have hn132_2:ad132.block≠gb131:=Nat.ne_of_lt (Nat.lt_of_lt_of_le (by have:=World.block_lt_of_cell? _ _ hx132_0;first|rwa [add_block] at this|exact this) GW131.out);have hn132_3:ad132.block≠gb131:=Nat.ne_of_lt (Nat.lt_of_lt_of_le (by have:=World.block_lt_of_cell? _ _ hx132_0;first|rwa [add_block] at this|exact this) GW131.out);replace hx132_0:=cel_ HB hx132_0;replace hx132_1:=cel_ HB hx132_1;replace hx132_2:=cel_ HB hx132_2;replace hx132_3:=cel_ HB hx132_3;have HR132_3:=Aside0.mk hi132_3;have HC132_3:=Aside0.mk hl132_3;clear hi132_3 hl132_3;replace hx132_0:=(cell_far (p:=⟨gb131,0,none⟩) a0_ (.string ((rd_T50 l0 x17_1).f0))).trans hx132_0;replace hx132_1:=(cell_far (p:=⟨gb131,0,none⟩) a0_ (.string ((rd_T50 l0 x17_1).f0))).trans hx132_1;replace hx132_2:=(cell_far (p:=⟨gb131,0,none⟩) a0_ (.string ((rd_T50 l0 x17_1).f0))).trans hx132_2;replace hx132_3:=(cell_far (p:=⟨gb131,0,none⟩) a0_ (.string ((rd_T50 l0 x17_1).f0))).trans hx132_3;replace hx132_0:=(cell_far (p:=⟨gb131,1,none⟩) a0_ (.int .u8 ((rd_T50 l0 x17_1).f1.f0))).trans hx132_0;replace hx132_1:=(cell_far (p:=⟨gb131,1,none⟩) a0_ (.int .u8 ((rd_T50 l0 x17_1).f1.f0))).trans hx132_1;replace hx132_2:=(cell_far (p:=⟨gb131,1,none⟩) a0_ (.int .u8 ((rd_T50 l0 x17_1).f1.f0))).trans hx132_2;replace hx132_3:=(cell_far (p:=⟨gb131,1,none⟩) a0_ (.int .u8 ((rd_T50 l0 x17_1).f1.f0))).trans hx132_3;replace hx132_0:=(cell_far (p:=⟨gb131,2,none⟩) a0_ (.int .u8 ((rd_T50 l0 x17_1).f1.f1))).trans hx132_0;replace hx132_1:=(cell_far (p:=⟨gb131,2,none⟩) a0_ (.int .u8 ((rd_T50 l0 x17_1).f1.f1))).trans hx132_1;replace hx132_2:=(cell_far (p:=⟨gb131,2,none⟩) a0_ (.int .u8 ((rd_T50 l0 x17_1).f1.f1))).trans hx132_2;replace hx132_3:=(cell_far (p:=⟨gb131,2,none⟩) a0_ (.int .u8 ((rd_T50 l0 x17_1).f1.f1))).trans hx132_3;replace hx132_0:=(cell_far (p:=⟨gb131,3,none⟩) a0_ (.slice A130_3 ((rd_T50 l0 x17_1).f2).length c130_3)).trans hx132_0;replace hx132_1:=(cell_far (p:=⟨gb131,3,none⟩) a0_ (.slice A130_3 ((rd_T50 l0 x17_1).f2).length c130_3)).trans hx132_1;replace hx132_2:=(cell_far (p:=⟨gb131,3,none⟩) a0_ (.slice A130_3 ((rd_T50 l0 x17_1).f2).length c130_3)).trans hx132_2;replace hx132_3:=(cell_far (p:=⟨gb131,3,none⟩) a0_ (.slice A130_3 ((rd_T50 l0 x17_1).f2).length c130_3)).trans hx132_3;clear hn132_0 hn132_1 hn132_2 hn132_3;replace p132:=eq_true p132;replace q132:=eq_true q132)|((with_reducible refine gate_dst (N:=9) rfl ?_);refine box_event ?hg (N:=9) ?hd (cs:=#[.string (⟨#[]⟩:ByteArray),.int .u8 0,.int .u8 0,.slice none 0 0]) (t:=50) ?hr ?_;(case hd=>rfl);(case hg=>rfl);(case hr=>first|(go_simp;done)|(go_simp;rfl));intro gb133 hg w12 hbox hb;have n_:=as7_ (blk_below (g:=gb131) (o:= .cells #[.string ((rd_T50 l0 x17_1).f0),.int .u8 ((rd_T50 l0 x17_1).f1.f0),.int .u8 ((rd_T50 l0 x17_1).f1.f1),.slice A130_3 ((rd_T50 l0 x17_1).f2).length c130_3] 50 (0,0)) (by (with_reducible repeat (first|refine blk_drewN ?_ _|refine blk_drew ?_|refine blk_alloc ?_ _));refine blk_put (cs:=#[.string ((rd_T50 l0 x17_1).f0),.int .u8 ((rd_T50 l0 x17_1).f1.f0),.int .u8 ((rd_T50 l0 x17_1).f1.f1),.slice none 0 0]) ?_ 3 _ rfl;(with_reducible repeat (first|refine blk_drewN ?_ _|refine blk_drew ?_|refine blk_alloc ?_ _));refine blk_put (cs:=#[.string ((rd_T50 l0 x17_1).f0),.int .u8 ((rd_T50 l0 x17_1).f1.f0),.int .u8 0,.slice none 0 0]) ?_ 2 _ rfl;(with_reducible repeat (first|refine blk_drewN ?_ _|refine blk_drew ?_|refine blk_alloc ?_ _));refine blk_put (cs:=#[.string ((rd_T50 l0 x17_1).f0),.int .u8 0,.int .u8 0,.slice none 0 0]) ?_ 1 _ rfl;(with_reducible repeat (first|refine blk_drewN ?_ _|refine blk_drew ?_|refine blk_alloc ?_ _));refine blk_put (cs:=#[.string (⟨#[]⟩:ByteArray),.int .u8 0,.int .u8 0,.slice none 0 0]) ?_ 0 _ rfl;(with_reducible repeat (first|refine blk_drewN ?_ _|refine blk_drew ?_|refine blk_alloc ?_ _));exact BK131.out) hb) (below_step b0_ hb) (hbox) ((g0_ hg b0_:w.heap.size≤gb133)) ((g0_ hg b0_:w.heap.size≤gb133)) ((by rw [hg];exact Nat.ne_of_lt (blk_lt (g:=gb131) (o:= .cells #[.string ((rd_T50 l0 x17_1).f0),.int .u8 ((rd_T50 l0 x17_1).f1.f0),.int .u8 ((rd_T50 l0 x17_1).f1.f1),.slice A130_3 ((rd_T50 l0 x17_1).f2).length c130_3] 50 (0,0)) (by (with_reducible repeat (first|refine blk_drewN ?_ _|refine blk_drew ?_|refine blk_alloc ?_ _));refine blk_put (cs:=#[.string ((rd_T50 l0 x17_1).f0),.int .u8 ((rd_T50 l0 x17_1).f1.f0),.int .u8 ((rd_T50 l0 x17_1).f1.f1),.slice none 0 0]) ?_ 3 _ rfl;(with_reducible repeat (first|refine blk_drewN ?_ _|refine blk_drew ?_|refine blk_alloc ?_ _));refine blk_put (cs:=#[.string ((rd_T50 l0 x17_1).f0),.int .u8 ((rd_T50 l0 x17_1).f1.f0),.int .u8 0,.slice none 0 0]) ?_ 2 _ rfl;(with_reducible repeat (first|refine blk_drewN ?_ _|refine blk_drew ?_|refine blk_alloc ?_ _));refine blk_put (cs:=#[.string ((rd_T50 l0 x17_1).f0),.int .u8 0,.int .u8 0,.slice none 0 0]) ?_ 1 _ rfl;(with_reducible repeat (first|refine blk_drewN ?_ _|refine blk_drew ?_|refine blk_alloc ?_ _));refine blk_put (cs:=#[.string (⟨#[]⟩:ByteArray),.int .u8 0,.int .u8 0,.slice none 0 0]) ?_ 0 _ rfl;(with_reducible repeat (first|refine blk_drewN ?_ _|refine blk_drew ?_|refine blk_alloc ?_ _));exact BK131.out)):gb131≠gb133)) ((by rw [hg];exact Nat.ne_of_gt (blk_lt (g:=gb131) (o:= .cells #[.string ((rd_T50 l0 x17_1).f0),.int .u8 ((rd_T50 l0 x17_1).f1.f0),.int .u8 ((rd_T50 l0 x17_1).f1.f1),.slice A130_3 ((rd_T50 l0 x17_1).f2).length c130_3] 50 (0,0)) (by (with_reducible repeat (first|refine blk_drewN ?_ _|refine blk_drew ?_|refine blk_alloc ?_ _));refine blk_put (cs:=#[.string ((rd_T50 l0 x17_1).f0),.int .u8 ((rd_T50 l0 x17_1).f1.f0),.int .u8 ((rd_T50 l0 x17_1).f1.f1),.slice none 0 0]) ?_ 3 _ rfl;(with_reducible repeat (first|refine blk_drewN ?_ _|refine blk_drew ?_|refine blk_alloc ?_ _));refine blk_put (cs:=#[.string ((rd_T50 l0 x17_1).f0),.int .u8 ((rd_T50 l0 x17_1).f1.f0),.int .u8 0,.slice none 0 0]) ?_ 2 _ rfl;(with_reducible repeat (first|refine blk_drewN ?_ _|refine blk_drew ?_|refine blk_alloc ?_ _));refine blk_put (cs:=#[.string ((rd_T50 l0 x17_1).f0),.int .u8 0,.int .u8 0,.slice none 0 0]) ?_ 1 _ rfl;(with_reducible repeat (first|refine blk_drewN ?_ _|refine blk_drew ?_|refine blk_alloc ?_ _));refine blk_put (cs:=#[.string (⟨#[]⟩:ByteArray),.int .u8 0,.int .u8 0,.slice none 0 0]) ?_ 0 _ rfl;(with_reducible repeat (first|refine blk_drewN ?_ _|refine blk_drew ?_|refine blk_alloc ?_ _));exact BK131.out)):gb133≠gb131));clear BK131 HB;obtain ⟨BK131,HB,BK133,GW133,GE133,NB131_133,NB133_131⟩:=n_;clear hb hbox hg;have hnb13:=NB133_131.out;have hnc13:=NB131_133.out;obtain ⟨hcz14_0,hcz14_1,hcz14_2,hcz14_3,hfz14_0,hfz14_1,hfz14_2,hfz14_3⟩:=ce4_ BK133;obtain ⟨hcz15_0,hcz15_1,hcz15_2,hcz15_3,hfz15_0,hfz15_1,hfz15_2,hfz15_3⟩:=ce4_ BK131)|((refine Aid.gate_calleeT (f:=38) rfl rfl ?_);refine Aid.goesT_ (some 29) rfl rfl Tryd.func38 (by kernel_rfl) rfl #[.agg #[.string ((rd_T50 l0 x17_1).f0),.int .u8 ((rd_T50 l0 x17_1).f1.f0),.int .u8 ((rd_T50 l0 x17_1).f1.f1),.slice A130_3 ((rd_T50 l0 x17_1).f2).length c130_3],.agg #[.string ((rd_T50 l1 x17_1).f0),.int .u8 ((rd_T50 l1 x17_1).f1.f0),.int .u8 ((rd_T50 l1 x17_1).f1.f1),.slice A132_3 ((rd_T50 l1 x17_1).f2).length c132_3]] rfl rfl ml_ ?_;(with_reducible refine (patch_same.calls k1 ((rd_T50 l0 x17_1).f0) ((rd_T50 l0 x17_1).f1.f0) ((rd_T50 l0 x17_1).f1.f1) _ _ ((rd_T50 l0 x17_1).f2) ((rd_T50 l1 x17_1).f0) ((rd_T50 l1 x17_1).f1.f0) ((rd_T50 l1 x17_1).f1.f1) _ _ ((rd_T50 l1 x17_1).f2) true _ ?side1 ?side2 ?side3 ?side4 A8.out).mono ?_);(case side1=>exact Kd.C_below HR130_3.out b0_);(case side2=>exact HC130_3.out);(case side3=>exact Kd.C_below HR132_3.out b0_);(case side4=>exact HC132_3.out);rintro e w16 ⟨rfl,hb⟩;refine ⟨_,rfl,?_⟩;have n_:=as3_ (bb_ BK131 hb) (blk_below (g:=gb133) (o:= .cells #[.string ((rd_T50 l1 x17_1).f0),.int .u8 ((rd_T50 l1 x17_1).f1.f0),.int .u8 ((rd_T50 l1 x17_1).f1.f1),.slice A132_3 ((rd_T50 l1 x17_1).f2).length c132_3] 50 (0,0)) (by (with_reducible repeat (first|refine blk_drewN ?_ _|refine blk_drew ?_|refine blk_alloc ?_ _));refine blk_put (cs:=#[.string ((rd_T50 l1 x17_1).f0),.int .u8 ((rd_T50 l1 x17_1).f1.f0),.int .u8 ((rd_T50 l1 x17_1).f1.f1),.slice none 0 0]) ?_ 3 _ rfl;(with_reducible repeat (first|refine blk_drewN ?_ _|refine blk_drew ?_|refine blk_alloc ?_ _));refine blk_put (cs:=#[.string ((rd_T50 l1 x17_1).f0),.int .u8 ((rd_T50 l1 x17_1).f1.f0),.int .u8 0,.slice none 0 0]) ?_ 2 _ rfl;(with_reducible repeat (first|refine blk_drewN ?_ _|refine blk_drew ?_|refine blk_alloc ?_ _));refine blk_put (cs:=#[.string ((rd_T50 l1 x17_1).f0),.int .u8 0,.int .u8 0,.slice none 0 0]) ?_ 1 _ rfl;(with_reducible repeat (first|refine blk_drewN ?_ _|refine blk_drew ?_|refine blk_alloc ?_ _));refine blk_put (cs:=#[.string (⟨#[]⟩:ByteArray),.int .u8 0,.int .u8 0,.slice none 0 0]) ?_ 0 _ rfl;(with_reducible repeat (first|refine blk_drewN ?_ _|refine blk_drew ?_|refine blk_alloc ?_ _));exact BK133.out) hb) (below_step b0_ hb);clear BK131 BK133 HB;obtain ⟨BK131,BK133,HB⟩:=n_;(try clear hb)))
 go_roundg k1
 case measure=>have:=HK1.out;omega
 case rel=>exact ⟨(wrap64 (x17_1+1)),r0_,H',⟨by have:=HK1.out;omega⟩,⟨b0_⟩⟩
 }
 {
 replace c9:=Bool.eq_false_iff.mpr c9
 subst c9
 replace H:=fn_ H
 obtain rfl:=Option.some.inj H
 have p130:0≤(x17_1:Int):=od_
 have q130:x17_1<(l0.length:Int):=od_
 obtain ⟨ad130,A130_3,c130_3,e130,hx130_0,hx130_1,hx130_2,hx130_3,hl130_3,hi130_3⟩:=at_T50 HR0.out x17_1 p130 q130
 cases e130
 replace hx130_0:=cel_ HB hx130_0
 replace hx130_1:=cel_ HB hx130_1
 replace hx130_2:=cel_ HB hx130_2
 replace hx130_3:=cel_ HB hx130_3
 have HR130_3:=Aside0.mk hi130_3
 have HC130_3:=Aside0.mk hl130_3
 clear hi130_3 hl130_3
 replace p130:=eq_true p130
 replace q130:=eq_true q130
 go_wp2_with (first|((with_reducible refine gate_dst (N:=8) rfl ?_);refine box_event ?hg (N:=8) ?hd (cs:=#[.string (⟨#[]⟩:ByteArray),.int .u8 0,.int .u8 0,.slice none 0 0]) (t:=50) ?hr ?_;(case hd=>rfl);(case hg=>rfl);(case hr=>first|(go_simp;done)|(go_simp;rfl));intro gb131 hg w17 hbox hb;have n_:=as4_ (below_step b0_ hb) (hbox) ((g0_ hg b0_:w.heap.size≤gb131)) ((g0_ hg b0_:w.heap.size≤gb131));clear HB;obtain ⟨HB,BK131,GW131,GE131⟩:=n_;clear hb hbox hg;obtain ⟨hcz18_0,hcz18_1,hcz18_2,hcz18_3,hfz18_0,hfz18_1,hfz18_2,hfz18_3⟩:=ce4_ BK131;have p132:0≤(x17_1:Int):=od_;have q132:x17_1<(l1.length:Int):=od_;obtain ⟨ad132,A132_3,c132_3,e132,hx132_0,hx132_1,hx132_2,hx132_3,hl132_3,hi132_3⟩:=at_T50 HR1.out x17_1 p132 q132;cases e132;have hn132_0:ad132.block≠gb131:=Nat.ne_of_lt (Nat.lt_of_lt_of_le (by have:=World.block_lt_of_cell? _ _ hx132_0;first|rwa [add_block] at this|exact this) GW131.out);have hn132_1:ad132.block≠gb131:=Nat.ne_of_lt (Nat.lt_of_lt_of_le (by have:=World.block_lt_of_cell? _ _ hx132_0;first|rwa [add_block] at this|exact this) GW131.out);have hn132_2:ad132.block≠gb131:=Nat.ne_of_lt (Nat.lt_of_lt_of_le (by have:=World.block_lt_of_cell? _ _ hx132_0;first|rwa [add_block] at this|exact this) GW131.out);have hn132_3:ad132.block≠gb131:=Nat.ne_of_lt (Nat.lt_of_lt_of_le (by have:=World.block_lt_of_cell? _ _ hx132_0;first|rwa [add_block] at this|exact this) GW131.out);replace hx132_0:=cel_ HB hx132_0;replace hx132_1:=cel_ HB hx132_1;replace hx132_2:=cel_ HB hx132_2;replace hx132_3:=cel_ HB hx132_3;have HR132_3:=Aside0.mk hi132_3;have HC132_3:=Aside0.mk hl132_3;clear hi132_3 hl132_3;replace hx132_0:=(cell_far (p:=⟨gb131,0,none⟩) a0_ (.string ((rd_T50 l0 x17_1).f0))).trans hx132_0;replace hx132_1:=(cell_far (p:=⟨gb131,0,none⟩) a0_ (.string ((rd_T50 l0 x17_1).f0))).trans hx132_1;replace hx132_2:=(cell_far (p:=⟨gb131,0,none⟩) a0_ (.string ((rd_T50 l0 x17_1).f0))).trans hx132_2;replace hx132_3:=(cell_far (p:=⟨gb131,0,none⟩) a0_ (.string ((rd_T50 l0 x17_1).f0))).trans hx132_3;replace hx132_0:=(cell_far (p:=⟨gb131,1,none⟩) a0_ (.int .u8 ((rd_T50 l0 x17_1).f1.f0))).trans hx132_0;replace hx132_1:=(cell_far (p:=⟨gb131,1,none⟩) a0_ (.int .u8 ((rd_T50 l0 x17_1).f1.f0))).trans hx132_1;replace hx132_2:=(cell_far (p:=⟨gb131,1,none⟩) a0_ (.int .u8 ((rd_T50 l0 x17_1).f1.f0))).trans hx132_2;replace hx132_3:=(cell_far (p:=⟨gb131,1,none⟩) a0_ (.int .u8 ((rd_T50 l0 x17_1).f1.f0))).trans hx132_3;replace hx132_0:=(cell_far (p:=⟨gb131,2,none⟩) a0_ (.int .u8 ((rd_T50 l0 x17_1).f1.f1))).trans hx132_0;replace hx132_1:=(cell_far (p:=⟨gb131,2,none⟩) a0_ (.int .u8 ((rd_T50 l0 x17_1).f1.f1))).trans hx132_1;replace hx132_2:=(cell_far (p:=⟨gb131,2,none⟩) a0_ (.int .u8 ((rd_T50 l0 x17_1).f1.f1))).trans hx132_2;replace hx132_3:=(cell_far (p:=⟨gb131,2,none⟩) a0_ (.int .u8 ((rd_T50 l0 x17_1).f1.f1))).trans hx132_3;replace hx132_0:=(cell_far (p:=⟨gb131,3,none⟩) a0_ (.slice A130_3 ((rd_T50 l0 x17_1).f2).length c130_3)).trans hx132_0;replace hx132_1:=(cell_far (p:=⟨gb131,3,none⟩) a0_ (.slice A130_3 ((rd_T50 l0 x17_1).f2).length c130_3)).trans hx132_1;replace hx132_2:=(cell_far (p:=⟨gb131,3,none⟩) a0_ (.slice A130_3 ((rd_T50 l0 x17_1).f2).length c130_3)).trans hx132_2;replace hx132_3:=(cell_far (p:=⟨gb131,3,none⟩) a0_ (.slice A130_3 ((rd_T50 l0 x17_1).f2).length c130_3)).trans hx132_3;clear hn132_0 hn132_1 hn132_2 hn132_3;replace p132:=eq_true p132;replace q132:=eq_true q132)|((with_reducible refine gate_dst (N:=9) rfl ?_);refine box_event ?hg (N:=9) ?hd (cs:=#[.string (⟨#[]⟩:ByteArray),.int .u8 0,.int .u8 0,.slice none 0 0]) (t:=50) ?hr ?_;(case hd=>rfl);(case hg=>rfl);(case hr=>first|(go_simp;done)|(go_simp;rfl));intro gb133 hg w19 hbox hb;have n_:=as7_ (blk_below (g:=gb131) (o:= .cells #[.string ((rd_T50 l0 x17_1).f0),.int .u8 ((rd_T50 l0 x17_1).f1.f0),.int .u8 ((rd_T50 l0 x17_1).f1.f1),.slice A130_3 ((rd_T50 l0 x17_1).f2).length c130_3] 50 (0,0)) (by (with_reducible repeat (first|refine blk_drewN ?_ _|refine blk_drew ?_|refine blk_alloc ?_ _));refine blk_put (cs:=#[.string ((rd_T50 l0 x17_1).f0),.int .u8 ((rd_T50 l0 x17_1).f1.f0),.int .u8 ((rd_T50 l0 x17_1).f1.f1),.slice none 0 0]) ?_ 3 _ rfl;(with_reducible repeat (first|refine blk_drewN ?_ _|refine blk_drew ?_|refine blk_alloc ?_ _));refine blk_put (cs:=#[.string ((rd_T50 l0 x17_1).f0),.int .u8 ((rd_T50 l0 x17_1).f1.f0),.int .u8 0,.slice none 0 0]) ?_ 2 _ rfl;(with_reducible repeat (first|refine blk_drewN ?_ _|refine blk_drew ?_|refine blk_alloc ?_ _));refine blk_put (cs:=#[.string ((rd_T50 l0 x17_1).f0),.int .u8 0,.int .u8 0,.slice none 0 0]) ?_ 1 _ rfl;(with_reducible repeat (first|refine blk_drewN ?_ _|refine blk_drew ?_|refine blk_alloc ?_ _));refine blk_put (cs:=#[.string (⟨#[]⟩:ByteArray),.int .u8 0,.int .u8 0,.slice none 0 0]) ?_ 0 _ rfl;(with_reducible repeat (first|refine blk_drewN ?_ _|refine blk_drew ?_|refine blk_alloc ?_ _));exact BK131.out) hb) (below_step b0_ hb) (hbox) ((g0_ hg b0_:w.heap.size≤gb133)) ((g0_ hg b0_:w.heap.size≤gb133)) ((by rw [hg];exact Nat.ne_of_lt (blk_lt (g:=gb131) (o:= .cells #[.string ((rd_T50 l0 x17_1).f0),.int .u8 ((rd_T50 l0 x17_1).f1.f0),.int .u8 ((rd_T50 l0 x17_1).f1.f1),.slice A130_3 ((rd_T50 l0 x17_1).f2).length c130_3] 50 (0,0)) (by (with_reducible repeat (first|refine blk_drewN ?_ _|refine blk_drew ?_|refine blk_alloc ?_ _));refine blk_put (cs:=#[.string ((rd_T50 l0 x17_1).f0),.int .u8 ((rd_T50 l0 x17_1).f1.f0),.int .u8 ((rd_T50 l0 x17_1).f1.f1),.slice none 0 0]) ?_ 3 _ rfl;(with_reducible repeat (first|refine blk_drewN ?_ _|refine blk_drew ?_|refine blk_alloc ?_ _));refine blk_put (cs:=#[.string ((rd_T50 l0 x17_1).f0),.int .u8 ((rd_T50 l0 x17_1).f1.f0),.int .u8 0,.slice none 0 0]) ?_ 2 _ rfl;(with_reducible repeat (first|refine blk_drewN ?_ _|refine blk_drew ?_|refine blk_alloc ?_ _));refine blk_put (cs:=#[.string ((rd_T50 l0 x17_1).f0),.int .u8 0,.int .u8 0,.slice none 0 0]) ?_ 1 _ rfl;(with_reducible repeat (first|refine blk_drewN ?_ _|refine blk_drew ?_|refine blk_alloc ?_ _));refine blk_put (cs:=#[.string (⟨#[]⟩:ByteArray),.int .u8 0,.int .u8 0,.slice none 0 0]) ?_ 0 _ rfl;(with_reducible repeat (first|refine blk_drewN ?_ _|refine blk_drew ?_|refine blk_alloc ?_ _));exact BK131.out)):gb131≠gb133)) ((by rw [hg];exact Nat.ne_of_gt (blk_lt (g:=gb131) (o:= .cells #[.string ((rd_T50 l0 x17_1).f0),.int .u8 ((rd_T50 l0 x17_1).f1.f0),.int .u8 ((rd_T50 l0 x17_1).f1.f1),.slice A130_3 ((rd_T50 l0 x17_1).f2).length c130_3] 50 (0,0)) (by (with_reducible repeat (first|refine blk_drewN ?_ _|refine blk_drew ?_|refine blk_alloc ?_ _));refine blk_put (cs:=#[.string ((rd_T50 l0 x17_1).f0),.int .u8 ((rd_T50 l0 x17_1).f1.f0),.int .u8 ((rd_T50 l0 x17_1).f1.f1),.slice none 0 0]) ?_ 3 _ rfl;(with_reducible repeat (first|refine blk_drewN ?_ _|refine blk_drew ?_|refine blk_alloc ?_ _));refine blk_put (cs:=#[.string ((rd_T50 l0 x17_1).f0),.int .u8 ((rd_T50 l0 x17_1).f1.f0),.int .u8 0,.slice none 0 0]) ?_ 2 _ rfl;(with_reducible repeat (first|refine blk_drewN ?_ _|refine blk_drew ?_|refine blk_alloc ?_ _));refine blk_put (cs:=#[.string ((rd_T50 l0 x17_1).f0),.int .u8 0,.int .u8 0,.slice none 0 0]) ?_ 1 _ rfl;(with_reducible repeat (first|refine blk_drewN ?_ _|refine blk_drew ?_|refine blk_alloc ?_ _));refine blk_put (cs:=#[.string (⟨#[]⟩:ByteArray),.int .u8 0,.int .u8 0,.slice none 0 0]) ?_ 0 _ rfl;(with_reducible repeat (first|refine blk_drewN ?_ _|refine blk_drew ?_|refine blk_alloc ?_ _));exact BK131.out)):gb133≠gb131));clear BK131 HB;obtain ⟨BK131,HB,BK133,GW133,GE133,NB131_133,NB133_131⟩:=n_;clear hb hbox hg;have hnb20:=NB133_131.out;have hnc20:=NB131_133.out;obtain ⟨hcz21_0,hcz21_1,hcz21_2,hcz21_3,hfz21_0,hfz21_1,hfz21_2,hfz21_3⟩:=ce4_ BK133;obtain ⟨hcz22_0,hcz22_1,hcz22_2,hcz22_3,hfz22_0,hfz22_1,hfz22_2,hfz22_3⟩:=ce4_ BK131)|((refine Aid.gate_calleeT (f:=38) rfl rfl ?_);refine Aid.goesT_ (some 29) rfl rfl Tryd.func38 (by kernel_rfl) rfl #[.agg #[.string ((rd_T50 l0 x17_1).f0),.int .u8 ((rd_T50 l0 x17_1).f1.f0),.int .u8 ((rd_T50 l0 x17_1).f1.f1),.slice A130_3 ((rd_T50 l0 x17_1).f2).length c130_3],.agg #[.string ((rd_T50 l1 x17_1).f0),.int .u8 ((rd_T50 l1 x17_1).f1.f0),.int .u8 ((rd_T50 l1 x17_1).f1.f1),.slice A132_3 ((rd_T50 l1 x17_1).f2).length c132_3]] rfl rfl ml_ ?_;(with_reducible refine (patch_same.calls k1 ((rd_T50 l0 x17_1).f0) ((rd_T50 l0 x17_1).f1.f0) ((rd_T50 l0 x17_1).f1.f1) _ _ ((rd_T50 l0 x17_1).f2) ((rd_T50 l1 x17_1).f0) ((rd_T50 l1 x17_1).f1.f0) ((rd_T50 l1 x17_1).f1.f1) _ _ ((rd_T50 l1 x17_1).f2) false _ ?side1 ?side2 ?side3 ?side4 A8.out).mono ?_);(case side1=>exact Kd.C_below HR130_3.out b0_);(case side2=>exact HC130_3.out);(case side3=>exact Kd.C_below HR132_3.out b0_);(case side4=>exact HC132_3.out);rintro e w23 ⟨rfl,hb⟩;refine ⟨_,rfl,?_⟩;have n_:=as3_ (bb_ BK131 hb) (blk_below (g:=gb133) (o:= .cells #[.string ((rd_T50 l1 x17_1).f0),.int .u8 ((rd_T50 l1 x17_1).f1.f0),.int .u8 ((rd_T50 l1 x17_1).f1.f1),.slice A132_3 ((rd_T50 l1 x17_1).f2).length c132_3] 50 (0,0)) (by (with_reducible repeat (first|refine blk_drewN ?_ _|refine blk_drew ?_|refine blk_alloc ?_ _));refine blk_put (cs:=#[.string ((rd_T50 l1 x17_1).f0),.int .u8 ((rd_T50 l1 x17_1).f1.f0),.int .u8 ((rd_T50 l1 x17_1).f1.f1),.slice none 0 0]) ?_ 3 _ rfl;(with_reducible repeat (first|refine blk_drewN ?_ _|refine blk_drew ?_|refine blk_alloc ?_ _));refine blk_put (cs:=#[.string ((rd_T50 l1 x17_1).f0),.int .u8 ((rd_T50 l1 x17_1).f1.f0),.int .u8 0,.slice none 0 0]) ?_ 2 _ rfl;(with_reducible repeat (first|refine blk_drewN ?_ _|refine blk_drew ?_|refine blk_alloc ?_ _));refine blk_put (cs:=#[.string ((rd_T50 l1 x17_1).f0),.int .u8 0,.int .u8 0,.slice none 0 0]) ?_ 1 _ rfl;(with_reducible repeat (first|refine blk_drewN ?_ _|refine blk_drew ?_|refine blk_alloc ?_ _));refine blk_put (cs:=#[.string (⟨#[]⟩:ByteArray),.int .u8 0,.int .u8 0,.slice none 0 0]) ?_ 0 _ rfl;(with_reducible repeat (first|refine blk_drewN ?_ _|refine blk_drew ?_|refine blk_alloc ?_ _));exact BK133.out) hb) (below_step b0_ hb);clear BK131 BK133 HB;obtain ⟨BK131,BK133,HB⟩:=n_;(try clear hb)))
 go_ret
 exact ⟨r1_,b0_⟩
 }
 }
 {
 rw [if_neg c7] at H
 exact absurd H (by simp)
 }
 }
 {
 rw [if_neg c6] at H
 exact absurd H (by simp)
 }
 }
 {
 rw [if_neg c5] at H
 exact absurd H (by simp)
 }
 }
 {
 rw [if_neg c4] at H
 have c4b0:decide (x17_1<(l0.length:Int))=false:=decide_eq_false c4
 clear c4
 obtain rfl:=Option.some.inj H
 go_wp2
 go_ret
 exact ⟨r1_,b0_⟩
 }
  )
  )
 }
 {
 rw [if_neg c3] at H
 have c3b0:((l0.length:Int)==(l1.length:Int))=false:=beq_eq_false_iff_ne.mpr c3
 have c3b1:((l0.length:Int) !=(l1.length:Int))=true:=bne_iff_ne.mpr c3
 have c3b2:(l0.length==l1.length)=false:=by first|simpa using c3|(simp at c3⊢;omega)
 obtain rfl:=Option.some.inj H
 go_enter Tryd.func58,Tryd.ntmps58
 go_wp2
 go_ret
 exact ⟨r1_,b0_⟩
 }
def patch_equal.f (k:Nat) (l0:List (S50)) (l1:List (S50)):Option (Bool):=(api_Field__v38.f k l0 l1).bind fun t135=>(some t135)
set_option maxHeartbeats 8000000 in
set_option maxRecDepth 100000 in
theorem patch_equal.calls (k:Nat) (A0:Option Addr) (c0:Nat) (l0:List (S50)) (A1:Option Addr) (c1:Nat) (l1:List (S50)) (r:Bool) (w:World) (hr0:Kd.C k50 w A0 l0.length l0) (hc0:l0.length≤c0) (hr1:Kd.C k50 w A1 l1.length l1) (hc1:l1.length≤c1) (h:patch_equal.f k l0 l1=some r):
 Calls Tryd.prog 44 #[.slice A0 l0.length c0,.slice A1 l1.length c1] w fun e w'=>e= .returned (.bool r)∧Below w.heap.size w w':=by
 have HR0:=Aside0.mk hr0
 have HC0:=Aside0.mk hc0
 clear hr0 hc0
 have HR1:=Aside0.mk hr1
 have HC1:=Aside0.mk hc1
 clear hr1 hc1
 have HB:=Aside0.mk (Below.refl w.heap.size w)
 have H:((api_Field__v38.f k l0 l1).bind fun t135=>(some t135))=some r:=h
 clear h
 obtain ⟨t135,A3,H⟩:=ob_ H
 obtain rfl:=Option.some.inj H
 go_enter Tryd.func44,Tryd.ntmps44
 go_wp2_with (first|((with_reducible refine gate_callee (f:=58) rfl ?_);refine gl_ (some 7) Tryd.func58 #[.slice A0 l0.length c0,.slice A1 l1.length c1,.func (.func 38) #[] #[]] ?_;(with_reducible refine (api_Field__v38.calls k _ _ l0 _ _ l1 t135 _ ?side1 ?side2 ?side3 ?side4 A3.out).mono ?_);(case side1=>repeat (first|exact HR0.out|(with_reducible refine Kd.C_alloc ?_ _)|(with_reducible refine Kd.C_drewN ?_ _)|(with_reducible refine Kd.C_drew ?_)));(case side2=>exact HC0.out);(case side3=>repeat (first|exact HR1.out|(with_reducible refine Kd.C_alloc ?_ _)|(with_reducible refine Kd.C_drewN ?_ _)|(with_reducible refine Kd.C_drew ?_)));(case side4=>exact HC1.out);rintro e w4 ⟨rfl,hb⟩;refine ⟨_,rfl,?_⟩;have n0_:=Aside0.mk (below_step b0_ hb);clear HB;have HB:=n0_;clear n0_;(try clear hb)))
 go_ret
 exact ⟨r1_,b0_⟩
def record_digit.f (a0:Int):Option (Bool):=if a0≥48 then (some (decide (a0≤57))) else (some false)
set_option maxHeartbeats 8000000 in
set_option maxRecDepth 100000 in
theorem record_digit.calls (a0:Int) (r:Bool) (w:World) (h:record_digit.f a0=some r):
 Calls Tryd.prog 59 #[.int .u8 a0] w fun e w'=>e= .returned (.bool r)∧Drawn0 w w':=by
 have H:(if a0≥48 then (some (decide (a0≤57))) else (some false))=some r:=h
 clear h
 by_cases c2:a0≥48
 {
 rw [if_pos c2] at H
 have c2b0:decide (48≤a0)=true:=decide_eq_true c2
 clear c2
 obtain rfl:=Option.some.inj H
 go_enter Tryd.func59,Tryd.ntmps59
 go_wp2
 go_ret
 exact ⟨r0_,d0_⟩
 }
 {
 rw [if_neg c2] at H
 have c2b0:decide (48≤a0)=false:=decide_eq_false c2
 clear c2
 obtain rfl:=Option.some.inj H
 go_enter Tryd.func59,Tryd.ntmps59
 go_wp2
 go_ret
 exact ⟨r0_,d0_⟩
 }
end
end Go.Proofs.YtdlolaognnbhpaaDoor.Pr
namespace Go.Proofs.YtdlolaognnbhpaaDoor.Pr
open Go.RowKit Go.Proofs.YtdlolaognnbhpaaDoorW.PrintWords Go.Proofs.YtdlolaognnbhpaaDoorW.PrintLast Go.Proofs.YtdlolaognnbhpaaDoorW.PrintMore
noncomputable section
attribute [local go_sem] max2_int min2_int max_two min_two max_three min_three max_four min_four
set_option linter.unusedVariables false
set_option linter.unusedSimpArgs false
def record_ValidTag.f (a0:ByteArray):Option (Bool):=if (a0.size:Int)=3 then (if a0.toList=([48,48,48]:List UInt8) then (some false) else (if 0<(a0.size:Int) then ((record_digit.f (bt a0 0)).bind fun t136=>(if t136=true then (if 1<(a0.size:Int) then ((record_digit.f (bt a0 1)).bind fun t137=>(if t137=true then (if 2<(a0.size:Int) then ((record_digit.f (bt a0 2)).bind fun t138=>(some t138)) else (none)) else (some false))) else (none)) else (some false))) else (none))) else (some false)
set_option maxHeartbeats 8000000 in
set_option maxRecDepth 100000 in
theorem record_ValidTag.calls (a0:ByteArray) (r:Bool) (w:World) (h:record_ValidTag.f a0=some r):
 Calls Tryd.prog 46 #[.string a0] w fun e w'=>e= .returned (.bool r)∧Drawn0 w w':=by
 have H:(if (a0.size:Int)=3 then (if a0.toList=([48,48,48]:List UInt8) then (some false) else (if 0<(a0.size:Int) then ((record_digit.f (bt a0 0)).bind fun t136=>(if t136=true then (if 1<(a0.size:Int) then ((record_digit.f (bt a0 1)).bind fun t137=>(if t137=true then (if 2<(a0.size:Int) then ((record_digit.f (bt a0 2)).bind fun t138=>(some t138)) else (none)) else (some false))) else (none)) else (some false))) else (none))) else (some false))=some r:=h
 clear h
 by_cases c2:(a0.size:Int)=3
 {
 rw [if_pos c2] at H
 have c2b0:((a0.size:Int)==3)=true:=beq_iff_eq.mpr c2
 have c2b1:((a0.size:Int) !=3)=false:=bne_eq_false_iff_eq.mpr c2
 clear c2
 by_cases c3:a0.toList=([48,48,48]:List UInt8)
 {
 rw [if_pos c3] at H
 have c3b0:(a0.toList==([48,48,48]:List UInt8))=true:=beq_iff_eq.mpr c3
 have c3b1:(a0.toList !=([48,48,48]:List UInt8))=false:=bne_eq_false_iff_eq.mpr c3
 clear c3
 obtain rfl:=Option.some.inj H
 go_enter Tryd.func46,Tryd.ntmps46
 go_wp2
 go_ret
 exact ⟨r0_,d0_⟩
 }
 {
 rw [if_neg c3] at H
 have c3b0:(a0.toList==([48,48,48]:List UInt8))=false:=beq_eq_false_iff_ne.mpr c3
 have c3b1:(a0.toList !=([48,48,48]:List UInt8))=true:=bne_iff_ne.mpr c3
 by_cases c4:0<(a0.size:Int)
 {
 rw [if_pos c4] at H
 have c4b0:decide (0<(a0.size:Int))=true:=decide_eq_true c4
 have c4b1:decide (0<a0.size)=true:=decide_eq_true (by omega)
 clear c4
 obtain ⟨t136,A6,H⟩:=ob_ H
 by_cases c7:t136=true
 {
 subst c7
 replace H:=tp_ H
 by_cases c8:1<(a0.size:Int)
 {
 rw [if_pos c8] at H
 have c8b0:decide (1<(a0.size:Int))=true:=decide_eq_true c8
 have c8b1:decide (1<a0.size)=true:=decide_eq_true (by omega)
 clear c8
 obtain ⟨t137,A10,H⟩:=ob_ H
 by_cases c11:t137=true
 {
 subst c11
 replace H:=tp_ H
 by_cases c12:2<(a0.size:Int)
 {
 rw [if_pos c12] at H
 have c12b0:decide (2<(a0.size:Int))=true:=decide_eq_true c12
 have c12b1:decide (2<a0.size)=true:=decide_eq_true (by omega)
 clear c12
 obtain ⟨t138,A14,H⟩:=ob_ H
 obtain rfl:=Option.some.inj H
 have p5:0≤(0:Int):=(by omega)
 have q5:0<a0.size:=(by have:(0:Int)<(a0.size:Int):=od_;omega)
 have hx5:∀ h:0<a0.size,((a0[0]'h).toNat:Int)=bt a0 0:=bt_at a0 0
 clear p5
 have qi5:(0<(a0.size:Int))=True:=eq_true od_
 replace q5:=eq_true q5
 go_enter Tryd.func46,Tryd.ntmps46
 go_wp2_with (first|(go_at_call 59;(with_reducible refine (record_digit.calls (bt a0 0) true _ A6.out).mono ?_);rintro e w' ⟨rfl,⟨nd,rfl⟩⟩;have p9:0≤(1:Int):=(by omega);have q9:1<a0.size:=(by have:(1:Int)<(a0.size:Int):=od_;omega);have hx9:∀ h:1<a0.size,((a0[1]'h).toNat:Int)=bt a0 1:=bt_at a0 1;clear p9;have qi9:(1<(a0.size:Int))=True:=eq_true od_;replace q9:=eq_true q9)|(go_at_call 59;(with_reducible refine (record_digit.calls (bt a0 1) true _ A10.out).mono ?_);rintro e w' ⟨rfl,⟨nd,rfl⟩⟩;have p13:0≤(2:Int):=(by omega);have q13:2<a0.size:=(by have:(2:Int)<(a0.size:Int):=od_;omega);have hx13:∀ h:2<a0.size,((a0[2]'h).toNat:Int)=bt a0 2:=bt_at a0 2;clear p13;have qi13:(2<(a0.size:Int))=True:=eq_true od_;replace q13:=eq_true q13)|(go_at_call 59;(with_reducible refine (record_digit.calls (bt a0 2) t138 _ A14.out).mono ?_);rintro e w' ⟨rfl,⟨nd,rfl⟩⟩))
 go_ret
 exact ⟨r0_,d0_⟩
 }
 {
 rw [if_neg c12] at H
 exact absurd H (by simp)
 }
 }
 {
 replace c11:=Bool.eq_false_iff.mpr c11
 subst c11
 replace H:=fn_ H
 obtain rfl:=Option.some.inj H
 have p5:0≤(0:Int):=(by omega)
 have q5:0<a0.size:=(by have:(0:Int)<(a0.size:Int):=od_;omega)
 have hx5:∀ h:0<a0.size,((a0[0]'h).toNat:Int)=bt a0 0:=bt_at a0 0
 clear p5
 have qi5:(0<(a0.size:Int))=True:=eq_true od_
 replace q5:=eq_true q5
 go_enter Tryd.func46,Tryd.ntmps46
 go_wp2_with (first|(go_at_call 59;(with_reducible refine (record_digit.calls (bt a0 0) true _ A6.out).mono ?_);rintro e w' ⟨rfl,⟨nd,rfl⟩⟩;have p9:0≤(1:Int):=(by omega);have q9:1<a0.size:=(by have:(1:Int)<(a0.size:Int):=od_;omega);have hx9:∀ h:1<a0.size,((a0[1]'h).toNat:Int)=bt a0 1:=bt_at a0 1;clear p9;have qi9:(1<(a0.size:Int))=True:=eq_true od_;replace q9:=eq_true q9)|(go_at_call 59;(with_reducible refine (record_digit.calls (bt a0 1) false _ A10.out).mono ?_);rintro e w' ⟨rfl,⟨nd,rfl⟩⟩))
 go_ret
 exact ⟨r0_,d0_⟩
 }
 }
 {
 rw [if_neg c8] at H
 exact absurd H (by simp)
 }
 }
 {
 replace c7:=Bool.eq_false_iff.mpr c7
 subst c7
 replace H:=fn_ H
 obtain rfl:=Option.some.inj H
 have p5:0≤(0:Int):=(by omega)
 have q5:0<a0.size:=(by have:(0:Int)<(a0.size:Int):=od_;omega)
 have hx5:∀ h:0<a0.size,((a0[0]'h).toNat:Int)=bt a0 0:=bt_at a0 0
 clear p5
 have qi5:(0<(a0.size:Int))=True:=eq_true od_
 replace q5:=eq_true q5
 go_enter Tryd.func46,Tryd.ntmps46
 go_wp2_with (first|(go_at_call 59;(with_reducible refine (record_digit.calls (bt a0 0) false _ A6.out).mono ?_);rintro e w' ⟨rfl,⟨nd,rfl⟩⟩))
 go_ret
 exact ⟨r0_,d0_⟩
 }
 }
 {
 rw [if_neg c4] at H
 exact absurd H (by simp)
 }
 }
 }
 {
 rw [if_neg c2] at H
 have c2b0:((a0.size:Int)==3)=false:=beq_eq_false_iff_ne.mpr c2
 have c2b1:((a0.size:Int) !=3)=true:=bne_iff_ne.mpr c2
 obtain rfl:=Option.some.inj H
 go_enter Tryd.func46,Tryd.ntmps46
 go_wp2
 go_ret
 exact ⟨r0_,d0_⟩
 }
def record_small.f (a0:Int):Option (Bool):=if a0≥97 then (some (decide (a0≤122))) else (some false)
set_option maxHeartbeats 8000000 in
set_option maxRecDepth 100000 in
theorem record_small.calls (a0:Int) (r:Bool) (w:World) (h:record_small.f a0=some r):
 Calls Tryd.prog 61 #[.int .u8 a0] w fun e w'=>e= .returned (.bool r)∧Drawn0 w w':=by
 have H:(if a0≥97 then (some (decide (a0≤122))) else (some false))=some r:=h
 clear h
 by_cases c2:a0≥97
 {
 rw [if_pos c2] at H
 have c2b0:decide (97≤a0)=true:=decide_eq_true c2
 clear c2
 obtain rfl:=Option.some.inj H
 go_enter Tryd.func61,Tryd.ntmps61
 go_wp2
 go_ret
 exact ⟨r0_,d0_⟩
 }
 {
 rw [if_neg c2] at H
 have c2b0:decide (97≤a0)=false:=decide_eq_false c2
 clear c2
 obtain rfl:=Option.some.inj H
 go_enter Tryd.func61,Tryd.ntmps61
 go_wp2
 go_ret
 exact ⟨r0_,d0_⟩
 }
def record_code.f (a0:Int):Option (Bool):=(record_digit.f a0).bind fun t139=>(if t139=true then (some true) else ((record_small.f a0).bind fun t140=>(some t140)))
set_option maxHeartbeats 8000000 in
set_option maxRecDepth 100000 in
theorem record_code.calls (a0:Int) (r:Bool) (w:World) (h:record_code.f a0=some r):
 Calls Tryd.prog 50 #[.int .u8 a0] w fun e w'=>e= .returned (.bool r)∧Drawn0 w w':=by
 have H:((record_digit.f a0).bind fun t139=>(if t139=true then (some true) else ((record_small.f a0).bind fun t140=>(some t140))))=some r:=h
 clear h
 obtain ⟨t139,A2,H⟩:=ob_ H
 by_cases c3:t139=true
 {
 subst c3
 replace H:=tp_ H
 obtain rfl:=Option.some.inj H
 go_enter Tryd.func50,Tryd.ntmps50
 go_wp2_with (first|((with_reducible refine gate_callee (f:=59) rfl ?_);refine gl_ (some 4) Tryd.func59 #[.int .u8 a0] ?_;(with_reducible refine (record_digit.calls a0 true _ A2.out).mono ?_);rintro e w' ⟨rfl,⟨nd,rfl⟩⟩;refine ⟨_,rfl,?_⟩))
 go_ret
 exact ⟨r0_,d0_⟩
 }
 {
 replace c3:=Bool.eq_false_iff.mpr c3
 subst c3
 replace H:=fn_ H
 obtain ⟨t140,A4,H⟩:=ob_ H
 obtain rfl:=Option.some.inj H
 go_enter Tryd.func50,Tryd.ntmps50
 go_wp2_with (first|((with_reducible refine gate_callee (f:=59) rfl ?_);refine gl_ (some 4) Tryd.func59 #[.int .u8 a0] ?_;(with_reducible refine (record_digit.calls a0 false _ A2.out).mono ?_);rintro e w' ⟨rfl,⟨nd,rfl⟩⟩;refine ⟨_,rfl,?_⟩)|(go_at_call 61;(with_reducible refine (record_small.calls a0 t140 _ A4.out).mono ?_);rintro e w' ⟨rfl,⟨nd,rfl⟩⟩))
 go_ret
 exact ⟨r0_,d0_⟩
 }
def record_indicator.f (a0:Int):Option (Bool):=if a0=32 then (some true) else ((record_code.f a0).bind fun t141=>(some t141))
set_option maxHeartbeats 8000000 in
set_option maxRecDepth 100000 in
theorem record_indicator.calls (a0:Int) (r:Bool) (w:World) (h:record_indicator.f a0=some r):
 Calls Tryd.prog 47 #[.int .u8 a0] w fun e w'=>e= .returned (.bool r)∧Drawn0 w w':=by
 have H:(if a0=32 then (some true) else ((record_code.f a0).bind fun t141=>(some t141)))=some r:=h
 clear h
 by_cases c2:a0=32
 {
 rw [if_pos c2] at H
 have c2b0:(a0==32)=true:=beq_iff_eq.mpr c2
 have c2b1:(a0 !=32)=false:=bne_eq_false_iff_eq.mpr c2
 clear c2
 obtain rfl:=Option.some.inj H
 go_enter Tryd.func47,Tryd.ntmps47
 go_wp2
 go_ret
 exact ⟨r0_,d0_⟩
 }
 {
 rw [if_neg c2] at H
 have c2b0:(a0==32)=false:=beq_eq_false_iff_ne.mpr c2
 have c2b1:(a0 !=32)=true:=bne_iff_ne.mpr c2
 obtain ⟨t141,A3,H⟩:=ob_ H
 obtain rfl:=Option.some.inj H
 go_enter Tryd.func47,Tryd.ntmps47
 go_wp2_with (first|(go_at_call 50;(with_reducible refine (record_code.calls a0 t141 _ A3.out).mono ?_);rintro e w' ⟨rfl,⟨nd,rfl⟩⟩))
 go_ret
 exact ⟨r0_,d0_⟩
 }
def utf8_DecodeRuneInString.f (a0:ByteArray):Option (Int×Int):=some ((Lib.decodeGo a0).1,(Lib.decodeGo a0).2)
theorem utf8_DecodeRuneInString.calls (a0:ByteArray) (r1 r2:Int) (w:World) (hT:PTabs w) (h:utf8_DecodeRuneInString.f a0=some (r1,r2)):
 Calls Tryd.prog 66 #[.string a0] w fun e w'=>e= .returned (.tuple #[.int .i32 r1,.int .i64 r2])∧Below w.heap.size w w':=by
 obtain ⟨rfl,rfl⟩:=Prod.mk.inj (Option.some.inj h)
 exact Tryd.utf8_DecodeRuneInString a0 w hT.here
def repertoire_from.f (a0:Int) (a1:Int) (a2:Int):Option (Bool):=if a0≥a1 then (some (decide (a0≤a2))) else (some false)
set_option maxHeartbeats 8000000 in
set_option maxRecDepth 100000 in
theorem repertoire_from.calls (a0:Int) (a1:Int) (a2:Int) (r:Bool) (w:World) (h:repertoire_from.f a0 a1 a2=some r):
 Calls Tryd.prog 83 #[.int .i64 a0,.int .i64 a1,.int .i64 a2] w fun e w'=>e= .returned (.bool r)∧Drawn0 w w':=by
 have H:(if a0≥a1 then (some (decide (a0≤a2))) else (some false))=some r:=h
 clear h
 by_cases c4:a0≥a1
 {
 rw [if_pos c4] at H
 have c4b0:decide (a1≤a0)=true:=decide_eq_true c4
 clear c4
 obtain rfl:=Option.some.inj H
 go_enter Tryd.func83,Tryd.ntmps83
 go_wp2
 go_ret
 exact ⟨r0_,d0_⟩
 }
 {
 rw [if_neg c4] at H
 have c4b0:decide (a1≤a0)=false:=decide_eq_false c4
 clear c4
 obtain rfl:=Option.some.inj H
 go_enter Tryd.func83,Tryd.ntmps83
 go_wp2
 go_ret
 exact ⟨r0_,d0_⟩
 }
open Classical in
noncomputable def strings_ContainsRune.f (a0 : ByteArray) (a1 : Int) : Option Bool := if Rune.Good a0 ∧ 0 ≤ a1 ∧ a1 < 65536 then some (decide (0 ≤ Rune.idx a0 a1)) else none
theorem strings_ContainsRune.calls (a0:ByteArray) (a1:Int) (r:Bool) (w:World) (h:strings_ContainsRune.f a0 a1=some r):
 Calls Tryd.prog 80 #[.string a0,.int .i32 a1] w fun e w'=>e= .returned (.bool r)∧Below w.heap.size w w':=by
 unfold strings_ContainsRune.f at h
 by_cases hc:Rune.Good a0∧0≤a1∧a1<65536
 {
 rw [if_pos hc] at h
 obtain rfl:=Option.some.inj h
 exact Rune.contains_any a0 hc.1 a1 hc.2.1 hc.2.2 w
 }
 {
 rw [if_neg hc] at h
 cases h
 }
end
end Go.Proofs.YtdlolaognnbhpaaDoor.Pr
namespace Go.Proofs.YtdlolaognnbhpaaDoor.Pr
open Go.RowKit Go.Proofs.YtdlolaognnbhpaaDoorW.PrintWords Go.Proofs.YtdlolaognnbhpaaDoorW.PrintLast Go.Proofs.YtdlolaognnbhpaaDoorW.PrintMore
noncomputable section
attribute [local go_sem] max2_int min2_int max_two min_two max_three min_three max_four min_four
set_option linter.unusedVariables false
set_option linter.unusedSimpArgs false
mutual
def repertoire_letter.j0:Nat→Int→Bool→Option (Int)
 |0,_,_=>none
 |k+1,x0,x3=>if x3=true then (some 1) else (if x0=930 then ((repertoire_from.f x0 945 969).bind fun t146=>(if t146=true then (repertoire_letter.j1 k x0 true) else ((strings_ContainsRune.f (⟨#[206,134,206,136,206,137,206,138,206,140,206,142,206,143,206,172,206,173,206,174,206,175,207,140,207,141,207,142,206,170,206,171,207,138,207,139]⟩:ByteArray) (wrap32 (x0))).bind fun t147=>(repertoire_letter.j1 k x0 t147)))) else ((repertoire_from.f x0 913 937).bind fun t148=>(if t148=true then (repertoire_letter.j1 k x0 true) else ((repertoire_from.f x0 945 969).bind fun t149=>(if t149=true then (repertoire_letter.j1 k x0 true) else ((strings_ContainsRune.f (⟨#[206,134,206,136,206,137,206,138,206,140,206,142,206,143,206,172,206,173,206,174,206,175,207,140,207,141,207,142,206,170,206,171,207,138,207,139]⟩:ByteArray) (wrap32 (x0))).bind fun t150=>(repertoire_letter.j1 k x0 t150)))))))
def repertoire_letter.j1:Nat→Int→Bool→Option (Int)
 |0,_,_=>none
 |k+1,x0,x23=>if x23=true then (some 2) else ((repertoire_from.f x0 1040 1103).bind fun t151=>(if t151=true then (some 3) else ((strings_ContainsRune.f (⟨#[208,129,209,145,208,135,209,151,208,132,209,148,210,144,210,145,208,142,209,158,208,134,209,150]⟩:ByteArray) (wrap32 (x0))).bind fun t152=>(if t152=true then (some 3) else (some 0)))))
end
def repertoire_letter.f (k:Nat) (a0:Int):Option (Int):=(repertoire_from.f a0 65 90).bind fun t142=>(if t142=true then (repertoire_letter.j0 k a0 true) else ((repertoire_from.f a0 97 122).bind fun t143=>(if t143=true then (repertoire_letter.j0 k a0 true) else (if a0=383 then (repertoire_letter.j0 k a0 true) else ((repertoire_from.f a0 64257 64258).bind fun t144=>(if t144=true then (repertoire_letter.j0 k a0 true) else ((strings_ContainsRune.f (⟨#[195,128,195,136,195,140,195,146,195,153,195,160,195,168,195,172,195,178,195,185,195,129,195,137,195,141,195,147,195,154,195,157,195,161,195,169,195,173,195,179,195,186,195,189,196,134,196,135,196,185,196,186,197,131,197,132,197,148,197,149,197,154,197,155,197,185,197,186,195,130,195,138,195,142,195,148,195,155,195,162,195,170,195,174,195,180,195,187,196,136,196,137,196,156,196,157,196,164,196,165,196,180,196,181,197,156,197,157,197,180,197,181,197,182,197,183,195,131,195,145,195,149,195,163,195,177,195,181,196,168,196,169,197,168,197,169,196,128,196,129,196,146,196,147,196,170,196,171,197,140,197,141,197,170,197,171,196,130,196,131,196,148,196,149,196,158,196,159,196,172,196,173,197,142,197,143,197,172,197,173,196,138,196,139,196,150,196,151,196,160,196,161,196,176,197,187,197,188,195,132,195,139,195,143,195,150,195,156,195,164,195,171,195,175,195,182,195,188,195,191,197,184,195,133,195,165,197,174,197,175,197,144,197,145,197,176,197,177,196,140,196,141,196,142,196,143,196,154,196,155,197,135,197,136,197,152,197,153,197,160,197,161,197,164,197,165,197,189,197,190,196,189,196,190,195,135,195,167,196,162,196,163,196,182,196,183,196,187,196,188,197,133,197,134,197,150,197,151,197,158,197,159,197,162,197,163,196,132,196,133,196,152,196,153,196,174,196,175,197,178,197,179,195,134,195,166,195,152,195,184,195,144,195,176,195,158,195,190,195,159,196,144,196,145,196,166,196,167,196,177,197,129,197,130,197,146,197,147,197,138,197,139,197,166,197,167]⟩:ByteArray) (wrap32 (a0))).bind fun t145=>(repertoire_letter.j0 k a0 t145))))))))
set_option maxHeartbeats 8000000 in
set_option maxRecDepth 100000 in
theorem repertoire_letter.calls (k:Nat) (a0:Int) (r:Int) (w:World) (h:repertoire_letter.f k a0=some r):
 Calls Tryd.prog 84 #[.int .i64 a0] w fun e w'=>e= .returned (.int .i64 r)∧Below w.heap.size w w':=by
 have HB:=Aside0.mk (Below.refl w.heap.size w)
 have H:((repertoire_from.f a0 65 90).bind fun t142=>(if t142=true then (repertoire_letter.j0 k a0 true) else ((repertoire_from.f a0 97 122).bind fun t143=>(if t143=true then (repertoire_letter.j0 k a0 true) else (if a0=383 then (repertoire_letter.j0 k a0 true) else ((repertoire_from.f a0 64257 64258).bind fun t144=>(if t144=true then (repertoire_letter.j0 k a0 true) else ((strings_ContainsRune.f (⟨#[195,128,195,136,195,140,195,146,195,153,195,160,195,168,195,172,195,178,195,185,195,129,195,137,195,141,195,147,195,154,195,157,195,161,195,169,195,173,195,179,195,186,195,189,196,134,196,135,196,185,196,186,197,131,197,132,197,148,197,149,197,154,197,155,197,185,197,186,195,130,195,138,195,142,195,148,195,155,195,162,195,170,195,174,195,180,195,187,196,136,196,137,196,156,196,157,196,164,196,165,196,180,196,181,197,156,197,157,197,180,197,181,197,182,197,183,195,131,195,145,195,149,195,163,195,177,195,181,196,168,196,169,197,168,197,169,196,128,196,129,196,146,196,147,196,170,196,171,197,140,197,141,197,170,197,171,196,130,196,131,196,148,196,149,196,158,196,159,196,172,196,173,197,142,197,143,197,172,197,173,196,138,196,139,196,150,196,151,196,160,196,161,196,176,197,187,197,188,195,132,195,139,195,143,195,150,195,156,195,164,195,171,195,175,195,182,195,188,195,191,197,184,195,133,195,165,197,174,197,175,197,144,197,145,197,176,197,177,196,140,196,141,196,142,196,143,196,154,196,155,197,135,197,136,197,152,197,153,197,160,197,161,197,164,197,165,197,189,197,190,196,189,196,190,195,135,195,167,196,162,196,163,196,182,196,183,196,187,196,188,197,133,197,134,197,150,197,151,197,158,197,159,197,162,197,163,196,132,196,133,196,152,196,153,196,174,196,175,197,178,197,179,195,134,195,166,195,152,195,184,195,144,195,176,195,158,195,190,195,159,196,144,196,145,196,166,196,167,196,177,197,129,197,130,197,146,197,147,197,138,197,139,197,166,197,167]⟩:ByteArray) (wrap32 (a0))).bind fun t145=>(repertoire_letter.j0 k a0 t145)))))))))=some r:=h
 clear h
 have HC2:=Aside0.mk H
 clear H
 go_enter Tryd.func84,Tryd.ntmps84
 go_upto_region 1 with (fail)
 go_cut [3] (fun v3 wc=>∃ (kq:Nat) (x3_1:Bool),v3= .bool x3_1∧Aside0 (repertoire_letter.j0 kq a0 x3_1=some r)∧Aside0 (kq≤k)∧Aside0 (Below w.heap.size w wc))
 case first=>
  (
 have H:=HC2.out
 clear HC2
 obtain ⟨t142,A3,H⟩:=ob_ H
 by_cases c4:t142=true
 {
 subst c4
 replace H:=tp_ H
 have H':=Aside0.mk H
 clear H
 go_wp2_with (first|((with_reducible refine gate_callee (f:=83) rfl ?_);refine gl_ (some 5) Tryd.func83 #[.int .i64 a0,.int .i64 65,.int .i64 90] ?_;(with_reducible refine (repertoire_from.calls a0 65 90 true _ A3.out).mono ?_);rintro e w' ⟨rfl,⟨nd,rfl⟩⟩;refine ⟨_,rfl,?_⟩))
 go_meet
 case rel=>exact ⟨_,(true),r0_,H',⟨by first|omega|exact Nat.le_refl _⟩,⟨b0_⟩⟩
 }
 {
 replace c4:=Bool.eq_false_iff.mpr c4
 subst c4
 replace H:=fn_ H
 obtain ⟨t143,A5,H⟩:=ob_ H
 by_cases c6:t143=true
 {
 subst c6
 replace H:=tp_ H
 have H':=Aside0.mk H
 clear H
 go_wp2_with (first|((with_reducible refine gate_callee (f:=83) rfl ?_);refine gl_ (some 5) Tryd.func83 #[.int .i64 a0,.int .i64 65,.int .i64 90] ?_;(with_reducible refine (repertoire_from.calls a0 65 90 false _ A3.out).mono ?_);rintro e w' ⟨rfl,⟨nd,rfl⟩⟩;refine ⟨_,rfl,?_⟩)|(go_at_call 83;(with_reducible refine (repertoire_from.calls a0 97 122 true _ A5.out).mono ?_);rintro e w' ⟨rfl,⟨nd,rfl⟩⟩))
 go_meet
 case rel=>exact ⟨_,(true),r0_,H',⟨by first|omega|exact Nat.le_refl _⟩,⟨b0_⟩⟩
 }
 {
 replace c6:=Bool.eq_false_iff.mpr c6
 subst c6
 replace H:=fn_ H
 by_cases c7:a0=383
 {
 rw [if_pos c7] at H
 have c7b0:(a0==383)=true:=beq_iff_eq.mpr c7
 have c7b1:(a0 !=383)=false:=bne_eq_false_iff_eq.mpr c7
 clear c7
 (first|rw [c7b0]|(simp only [i64_w,i32_w];rw [c7b0])|skip)
 have H':=Aside0.mk H
 clear H
 go_wp2_with (first|((with_reducible refine gate_callee (f:=83) rfl ?_);refine gl_ (some 5) Tryd.func83 #[.int .i64 a0,.int .i64 65,.int .i64 90] ?_;(with_reducible refine (repertoire_from.calls a0 65 90 false _ A3.out).mono ?_);rintro e w' ⟨rfl,⟨nd,rfl⟩⟩;refine ⟨_,rfl,?_⟩)|(go_at_call 83;(with_reducible refine (repertoire_from.calls a0 97 122 false _ A5.out).mono ?_);rintro e w' ⟨rfl,⟨nd,rfl⟩⟩))
 go_meet
 case rel=>exact ⟨_,(true),r0_,H',⟨by first|omega|exact Nat.le_refl _⟩,⟨b0_⟩⟩
 }
 {
 rw [if_neg c7] at H
 have c7b0:(a0==383)=false:=beq_eq_false_iff_ne.mpr c7
 have c7b1:(a0 !=383)=true:=bne_iff_ne.mpr c7
 (first|rw [c7b0]|(simp only [i64_w,i32_w];rw [c7b0])|skip)
 obtain ⟨t144,A8,H⟩:=ob_ H
 by_cases c9:t144=true
 {
 subst c9
 replace H:=tp_ H
 have H':=Aside0.mk H
 clear H
 go_wp2_with (first|((with_reducible refine gate_callee (f:=83) rfl ?_);refine gl_ (some 5) Tryd.func83 #[.int .i64 a0,.int .i64 65,.int .i64 90] ?_;(with_reducible refine (repertoire_from.calls a0 65 90 false _ A3.out).mono ?_);rintro e w' ⟨rfl,⟨nd,rfl⟩⟩;refine ⟨_,rfl,?_⟩)|(go_at_call 83;(with_reducible refine (repertoire_from.calls a0 97 122 false _ A5.out).mono ?_);rintro e w' ⟨rfl,⟨nd,rfl⟩⟩)|(go_at_call 83;(with_reducible refine (repertoire_from.calls a0 64257 64258 true _ A8.out).mono ?_);rintro e w' ⟨rfl,⟨nd,rfl⟩⟩))
 go_meet
 case rel=>exact ⟨_,(true),r0_,H',⟨by first|omega|exact Nat.le_refl _⟩,⟨b0_⟩⟩
 }
 {
 replace c9:=Bool.eq_false_iff.mpr c9
 subst c9
 replace H:=fn_ H
 obtain ⟨t145,A10,H⟩:=ob_ H
 have H':=Aside0.mk H
 clear H
 go_wp2_with (first|((with_reducible refine gate_callee (f:=83) rfl ?_);refine gl_ (some 5) Tryd.func83 #[.int .i64 a0,.int .i64 65,.int .i64 90] ?_;(with_reducible refine (repertoire_from.calls a0 65 90 false _ A3.out).mono ?_);rintro e w' ⟨rfl,⟨nd,rfl⟩⟩;refine ⟨_,rfl,?_⟩)|(go_at_call 83;(with_reducible refine (repertoire_from.calls a0 97 122 false _ A5.out).mono ?_);rintro e w' ⟨rfl,⟨nd,rfl⟩⟩)|(go_at_call 83;(with_reducible refine (repertoire_from.calls a0 64257 64258 false _ A8.out).mono ?_);rintro e w' ⟨rfl,⟨nd,rfl⟩⟩)|(go_at_call 80;(with_reducible refine (strings_ContainsRune.calls (⟨#[195,128,195,136,195,140,195,146,195,153,195,160,195,168,195,172,195,178,195,185,195,129,195,137,195,141,195,147,195,154,195,157,195,161,195,169,195,173,195,179,195,186,195,189,196,134,196,135,196,185,196,186,197,131,197,132,197,148,197,149,197,154,197,155,197,185,197,186,195,130,195,138,195,142,195,148,195,155,195,162,195,170,195,174,195,180,195,187,196,136,196,137,196,156,196,157,196,164,196,165,196,180,196,181,197,156,197,157,197,180,197,181,197,182,197,183,195,131,195,145,195,149,195,163,195,177,195,181,196,168,196,169,197,168,197,169,196,128,196,129,196,146,196,147,196,170,196,171,197,140,197,141,197,170,197,171,196,130,196,131,196,148,196,149,196,158,196,159,196,172,196,173,197,142,197,143,197,172,197,173,196,138,196,139,196,150,196,151,196,160,196,161,196,176,197,187,197,188,195,132,195,139,195,143,195,150,195,156,195,164,195,171,195,175,195,182,195,188,195,191,197,184,195,133,195,165,197,174,197,175,197,144,197,145,197,176,197,177,196,140,196,141,196,142,196,143,196,154,196,155,197,135,197,136,197,152,197,153,197,160,197,161,197,164,197,165,197,189,197,190,196,189,196,190,195,135,195,167,196,162,196,163,196,182,196,183,196,187,196,188,197,133,197,134,197,150,197,151,197,158,197,159,197,162,197,163,196,132,196,133,196,152,196,153,196,174,196,175,197,178,197,179,195,134,195,166,195,152,195,184,195,144,195,176,195,158,195,190,195,159,196,144,196,145,196,166,196,167,196,177,197,129,197,130,197,146,197,147,197,138,197,139,197,166,197,167]⟩:ByteArray) (wrap32 (a0)) t145 _ A10.out).mono ?_);rintro e w11 ⟨rfl,hb⟩;have n0_:=Aside0.mk (below_step b0_ hb);clear HB;have HB:=n0_;clear n0_;(try clear hb)))
 go_meet
 case rel=>exact ⟨_,(t145),r0_,H',⟨by first|omega|exact Nat.le_refl _⟩,⟨b0_⟩⟩
 }
 }
 }
 }
  )
 case rest=>
  (
 clear HC2
 try clear p2
 try clear p3
 try clear c4
 try clear c6
 try clear c7
 try clear c7b0
 try clear c7b1
 try clear c8
 try clear c9
 obtain ⟨kq,x3_1,rfl,HA,HJ1,HB⟩:=hcut
 cases kq with
 |zero=>exact absurd HA.out (by simp [repertoire_letter.j0])
 |succ kj1=>
  (
 have H:=HA.out
 clear HA
 simp only [repertoire_letter.j0] at H
 by_cases c12:x3_1=true
 {
 subst c12
 replace H:=tp_ H
 obtain rfl:=Option.some.inj H
 go_wp2
 go_ret
 exact ⟨r1_,b0_⟩
 }
 {
 replace c12:=Bool.eq_false_iff.mpr c12
 subst c12
 replace H:=fn_ H
 have HC13:=Aside0.mk H
 clear H
 go_upto_region 3 with (fail)
 go_cut [23] (fun v23 wc=>∃ (kq:Nat) (x23_12:Bool),v23= .bool x23_12∧Aside0 (repertoire_letter.j1 kq a0 x23_12=some r)∧Aside0 (kq≤kj1)∧Aside0 (Below w.heap.size w wc))
 case first=>
  (
 have H:=HC13.out
 clear HC13
 by_cases c14:a0=930
 {
 rw [if_pos c14] at H
 have c14b0:(a0==930)=true:=beq_iff_eq.mpr c14
 have c14b1:(a0 !=930)=false:=bne_eq_false_iff_eq.mpr c14
 clear c14
 (first|rw [c14b0]|(simp only [i64_w,i32_w];rw [c14b0])|skip)
 obtain ⟨t146,A15,H⟩:=ob_ H
 by_cases c16:t146=true
 {
 subst c16
 replace H:=tp_ H
 have H':=Aside0.mk H
 clear H
 go_wp2_with (first|(go_at_call 83;(with_reducible refine (repertoire_from.calls a0 945 969 true _ A15.out).mono ?_);rintro e w' ⟨rfl,⟨nd,rfl⟩⟩))
 go_meet
 case rel=>exact ⟨_,(true),r0_,H',⟨by have:=HJ1.out;first|omega|exact Nat.le_refl _⟩,⟨b0_⟩⟩
 }
 {
 replace c16:=Bool.eq_false_iff.mpr c16
 subst c16
 replace H:=fn_ H
 obtain ⟨t147,A17,H⟩:=ob_ H
 have H':=Aside0.mk H
 clear H
 go_wp2_with (first|(go_at_call 83;(with_reducible refine (repertoire_from.calls a0 945 969 false _ A15.out).mono ?_);rintro e w' ⟨rfl,⟨nd,rfl⟩⟩)|(go_at_call 80;(with_reducible refine (strings_ContainsRune.calls (⟨#[206,134,206,136,206,137,206,138,206,140,206,142,206,143,206,172,206,173,206,174,206,175,207,140,207,141,207,142,206,170,206,171,207,138,207,139]⟩:ByteArray) (wrap32 (a0)) t147 _ A17.out).mono ?_);rintro e w18 ⟨rfl,hb⟩;have n0_:=Aside0.mk (below_step b0_ hb);clear HB;have HB:=n0_;clear n0_;(try clear hb)))
 go_meet
 case rel=>exact ⟨_,(t147),r0_,H',⟨by have:=HJ1.out;first|omega|exact Nat.le_refl _⟩,⟨b0_⟩⟩
 }
 }
 {
 rw [if_neg c14] at H
 have c14b0:(a0==930)=false:=beq_eq_false_iff_ne.mpr c14
 have c14b1:(a0 !=930)=true:=bne_iff_ne.mpr c14
 (first|rw [c14b0]|(simp only [i64_w,i32_w];rw [c14b0])|skip)
 obtain ⟨t148,A19,H⟩:=ob_ H
 by_cases c20:t148=true
 {
 subst c20
 replace H:=tp_ H
 have H':=Aside0.mk H
 clear H
 go_wp2_with (first|(go_at_call 83;(with_reducible refine (repertoire_from.calls a0 913 937 true _ A19.out).mono ?_);rintro e w' ⟨rfl,⟨nd,rfl⟩⟩))
 go_meet
 case rel=>exact ⟨_,(true),r0_,H',⟨by have:=HJ1.out;first|omega|exact Nat.le_refl _⟩,⟨b0_⟩⟩
 }
 {
 replace c20:=Bool.eq_false_iff.mpr c20
 subst c20
 replace H:=fn_ H
 obtain ⟨t149,A21,H⟩:=ob_ H
 by_cases c22:t149=true
 {
 subst c22
 replace H:=tp_ H
 have H':=Aside0.mk H
 clear H
 go_wp2_with (first|(go_at_call 83;(with_reducible refine (repertoire_from.calls a0 913 937 false _ A19.out).mono ?_);rintro e w' ⟨rfl,⟨nd,rfl⟩⟩)|(go_at_call 83;(with_reducible refine (repertoire_from.calls a0 945 969 true _ A21.out).mono ?_);rintro e w' ⟨rfl,⟨nd,rfl⟩⟩))
 go_meet
 case rel=>exact ⟨_,(true),r0_,H',⟨by have:=HJ1.out;first|omega|exact Nat.le_refl _⟩,⟨b0_⟩⟩
 }
 {
 replace c22:=Bool.eq_false_iff.mpr c22
 subst c22
 replace H:=fn_ H
 obtain ⟨t150,A23,H⟩:=ob_ H
 have H':=Aside0.mk H
 clear H
 go_wp2_with (first|(go_at_call 83;(with_reducible refine (repertoire_from.calls a0 913 937 false _ A19.out).mono ?_);rintro e w' ⟨rfl,⟨nd,rfl⟩⟩)|(go_at_call 83;(with_reducible refine (repertoire_from.calls a0 945 969 false _ A21.out).mono ?_);rintro e w' ⟨rfl,⟨nd,rfl⟩⟩)|(go_at_call 80;(with_reducible refine (strings_ContainsRune.calls (⟨#[206,134,206,136,206,137,206,138,206,140,206,142,206,143,206,172,206,173,206,174,206,175,207,140,207,141,207,142,206,170,206,171,207,138,207,139]⟩:ByteArray) (wrap32 (a0)) t150 _ A23.out).mono ?_);rintro e w24 ⟨rfl,hb⟩;have n0_:=Aside0.mk (below_step b0_ hb);clear HB;have HB:=n0_;clear n0_;(try clear hb)))
 go_meet
 case rel=>exact ⟨_,(t150),r0_,H',⟨by have:=HJ1.out;first|omega|exact Nat.le_refl _⟩,⟨b0_⟩⟩
 }
 }
 }
  )
 case rest=>
  (
 clear HC13
 try clear c1
 try clear c2
 try clear p2
 try clear p3
 try clear c4
 try clear c6
 try clear c7
 try clear c7b0
 try clear c7b1
 try clear c8
 try clear c9
 try clear c12
 try clear c14
 try clear c14b0
 try clear c14b1
 try clear c16
 try clear c20
 try clear c22
 try clear p2
 try clear p3
 obtain ⟨kq,x23_12,rfl,HA,HJ12,HB⟩:=hcut
 cases kq with
 |zero=>exact absurd HA.out (by simp [repertoire_letter.j1])
 |succ kj12=>
  (
 have H:=HA.out
 clear HA
 simp only [repertoire_letter.j1] at H
 by_cases c25:x23_12=true
 {
 subst c25
 replace H:=tp_ H
 obtain rfl:=Option.some.inj H
 go_wp2
 go_ret
 exact ⟨r1_,b0_⟩
 }
 {
 replace c25:=Bool.eq_false_iff.mpr c25
 subst c25
 replace H:=fn_ H
 obtain ⟨t151,A26,H⟩:=ob_ H
 by_cases c27:t151=true
 {
 subst c27
 replace H:=tp_ H
 obtain rfl:=Option.some.inj H
 go_wp2_with (first|((with_reducible refine gate_callee (f:=83) rfl ?_);refine gl_ (some 41) Tryd.func83 #[.int .i64 a0,.int .i64 1040,.int .i64 1103] ?_;(with_reducible refine (repertoire_from.calls a0 1040 1103 true _ A26.out).mono ?_);rintro e w' ⟨rfl,⟨nd,rfl⟩⟩;refine ⟨_,rfl,?_⟩))
 go_ret
 exact ⟨r1_,b0_⟩
 }
 {
 replace c27:=Bool.eq_false_iff.mpr c27
 subst c27
 replace H:=fn_ H
 obtain ⟨t152,A28,H⟩:=ob_ H
 by_cases c29:t152=true
 {
 subst c29
 replace H:=tp_ H
 obtain rfl:=Option.some.inj H
 go_wp2_with (first|((with_reducible refine gate_callee (f:=83) rfl ?_);refine gl_ (some 41) Tryd.func83 #[.int .i64 a0,.int .i64 1040,.int .i64 1103] ?_;(with_reducible refine (repertoire_from.calls a0 1040 1103 false _ A26.out).mono ?_);rintro e w' ⟨rfl,⟨nd,rfl⟩⟩;refine ⟨_,rfl,?_⟩)|(go_at_call 80;(with_reducible refine (strings_ContainsRune.calls (⟨#[208,129,209,145,208,135,209,151,208,132,209,148,210,144,210,145,208,142,209,158,208,134,209,150]⟩:ByteArray) (wrap32 (a0)) true _ A28.out).mono ?_);rintro e w30 ⟨rfl,hb⟩;have n0_:=Aside0.mk (below_step b0_ hb);clear HB;have HB:=n0_;clear n0_;(try clear hb)))
 go_ret
 exact ⟨r1_,b0_⟩
 }
 {
 replace c29:=Bool.eq_false_iff.mpr c29
 subst c29
 replace H:=fn_ H
 obtain rfl:=Option.some.inj H
 go_wp2_with (first|((with_reducible refine gate_callee (f:=83) rfl ?_);refine gl_ (some 41) Tryd.func83 #[.int .i64 a0,.int .i64 1040,.int .i64 1103] ?_;(with_reducible refine (repertoire_from.calls a0 1040 1103 false _ A26.out).mono ?_);rintro e w' ⟨rfl,⟨nd,rfl⟩⟩;refine ⟨_,rfl,?_⟩)|(go_at_call 80;(with_reducible refine (strings_ContainsRune.calls (⟨#[208,129,209,145,208,135,209,151,208,132,209,148,210,144,210,145,208,142,209,158,208,134,209,150]⟩:ByteArray) (wrap32 (a0)) false _ A28.out).mono ?_);rintro e w31 ⟨rfl,hb⟩;have n0_:=Aside0.mk (below_step b0_ hb);clear HB;have HB:=n0_;clear n0_;(try clear hb)))
 go_ret
 exact ⟨r1_,b0_⟩
 }
 }
 }
  )
  )
 }
  )
  )
end
end Go.Proofs.YtdlolaognnbhpaaDoor.Pr
