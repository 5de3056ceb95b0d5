/- A part of the proof of laws of this seat: PatchBack, PatchDiff, PatchLeast, PatchMetric. Conditions: none of our own. -/
import Derived.Test.YtdlolaognnbhpaaDoorK4
namespace Go.Proofs.YtdlolaognnbhpaaDoor.Pr
open Go.RowKit Go.Proofs.YtdlolaognnbhpaaDoorW.PrintWords Go.Proofs.YtdlolaognnbhpaaDoorW.PrintLast Go.Proofs.YtdlolaognnbhpaaDoorW.PrintMore
noncomputable section
attribute [local go_sem] max2_int min2_int max_two min_two max_three min_three max_four min_four
set_option linter.unusedVariables false
set_option linter.unusedSimpArgs false
def bookplateref12_CopyField.f (a0_0:ByteArray) (a0_1:Int) (a0_2:Int) (l0_3:List (S55)):Option (ByteArray×Int×Int×(List (S55))):=(some (([]:List (S55)):List (S55))).bind fun y396=>(if y396.length+l0_3.length<5864062014805 then (some (a0_0,a0_1,a0_2,(y396++l0_3))) else (none))
set_option maxHeartbeats 8000000 in
set_option maxRecDepth 100000 in
theorem bookplateref12_CopyField.calls (a0_0:ByteArray) (a0_1:Int) (a0_2:Int) (A0_3:Option Addr) (c0_3:Nat) (l0_3:List (S55)) (r1:ByteArray) (r2:Int) (r3:Int) (r4:List (S55)) (w:World) (hr0_3:Kd.C k55 w A0_3 l0_3.length l0_3) (hc0_3:l0_3.length≤c0_3) (h:bookplateref12_CopyField.f a0_0 a0_1 a0_2 l0_3=some (r1,r2,r3,r4)):
 Calls Tryd.prog 41 #[.agg #[.string a0_0,.int .u8 a0_1,.int .u8 a0_2,.slice A0_3 l0_3.length c0_3]] w fun e w'=>∃ v3_:Value,e= .returned (.agg #[.string r1,.int .u8 r2,.int .u8 r3,v3_])∧Kd.R k55 55 w' w.heap.size (fun _=>True) v3_ r4∧Below w.heap.size w w':=by
 have hu50:=Tryd.underlying50
 have HR0_3:=Aside0.mk hr0_3
 have HC0_3:=Aside0.mk hc0_3
 clear hr0_3 hc0_3
 have HB:=Aside0.mk (Below.refl w.heap.size w)
 have H:((some (([]:List (S55)):List (S55))).bind fun y396=>(if y396.length+l0_3.length<5864062014805 then (some (a0_0,a0_1,a0_2,(y396++l0_3))) else (none)))=some (r1,r2,r3,r4):=h
 clear h
 obtain ⟨y396,hy396⟩:∃ y_:List (S55),y_=(([]:List (S55))):=⟨_,rfl⟩
 replace H:(if y396.length+l0_3.length<5864062014805 then (some (a0_0,a0_1,a0_2,(y396++l0_3))) else (none))=some (r1,r2,r3,r4):=by first|(rw [hy396];with_reducible exact H)|(have H2_:=(Option.bind_some _ _).symm.trans H;rw [hy396];with_reducible exact H2_)|(have H2_:=(Option.bind_some _ _).symm.trans H;with_reducible exact H2_)|with_reducible exact H|(rw [hy396];exact H)|exact H
 have Ny396:=Aside0.mk hy396
 clear hy396
 by_cases c2:y396.length+l0_3.length<5864062014805
 {
 rw [if_pos c2] at H
 have LMc2:=Aside0.mk c2
 clear c2
 obtain ⟨y399,hy399⟩:∃ y_:List (S55),y_=(y396++l0_3):=⟨_,rfl⟩
 replace H:(some (a0_0,a0_1,a0_2,y399))=some (r1,r2,r3,r4):=by first|(rw [hy399];with_reducible exact H)|(have H2_:=(Option.bind_some _ _).symm.trans H;rw [hy399];with_reducible exact H2_)|(have H2_:=(Option.bind_some _ _).symm.trans H;with_reducible exact H2_)|with_reducible exact H|(rw [hy399];exact H)|exact H
 have Ny399:=Aside0.mk hy399
 clear hy399
 simp only [Option.some.injEq,Prod.mk.injEq] at H
 obtain ⟨rfl,rfl,rfl,rfl⟩:=H
 go_enter Tryd.func41,Tryd.ntmps41
 go_wp2_with (first|((with_reducible refine gate_dst (N:=1) rfl ?_);refine bx_ (N:=1) (cs:=#[.string a0_0,.int .u8 a0_1,.int .u8 a0_2,.slice A0_3 l0_3.length c0_3]) (t:=50) ?_;intro gb394 hg w3 hbox hb;have n_:=as4_ (below_step b0_ hb) (hbox) ((g0_ hg b0_:w.heap.size≤gb394)) ((g0_ hg b0_:w.heap.size≤gb394));clear HB;obtain ⟨HB,BK394,GW394,GE394⟩:=n_;clear hb hbox hg)|((with_reducible refine gate_dst (N:=2) rfl ?_);refine box_event ?hg (N:=2) ?hd (cs:=#[.string (⟨#[]⟩:ByteArray),.int .u8 0,.int .u8 0,.slice none 0 0]) (t:=50) ?hr ?_;(case hd=>rfl);(case hg=>rfl);(case hr=>first|(go_simp;done)|(go_simp;rfl));intro gb395 hg w4 hbox hb;have n_:=as7_ (bb_ BK394 hb) (below_step b0_ hb) (hbox) ((g0_ hg b0_:w.heap.size≤gb395)) ((g0_ hg b0_:w.heap.size≤gb395)) ((g1_ hg k0_:gb394≠gb395)) ((g2_ hg k0_:gb395≠gb394));clear BK394 HB;obtain ⟨BK394,HB,BK395,GW395,GE395,NB394_395,NB395_394⟩:=n_;clear hb hbox hg)|((with_reducible refine gate_dst (N:=3) rfl ?_);refine Kd.R_lit k55 _ 55 ?hg (N:=3) ?hd (xs:=([]:List (S55))) (inner:=[]) (ok:=fun _=>True) (okp:=fun _=>True) ?hr ?hp (fun _ hk=>hk) trivial (Below.refl _ _) (Nat.le_refl _) (by simp) ?_;(case hd=>rfl);(case hg=>rfl);(case hr=>first|(go_simp;done)|(go_simp;rfl));(case hp=>exact (Reps.none _ _));intro v397 w5 ho6 hb hg_ hnew_;clear hg_ hnew_;(first|rw [←Ny396.out] at ho6|(simp only [Int.reduceToNat] at ho6;rw [←Ny396.out] at ho6));have n_:=as4_ (Kd.R_lower ho6 (below_size b0_)) (bb_ BK394 hb) (blk_below (g:=gb395) (o:= .cells #[.string (⟨#[]⟩:ByteArray),.int .u8 0,.int .u8 0,.slice none 0 0] 50 (0,0)) k0_ hb) (below_step b0_ hb);clear BK394 BK395 HB;obtain ⟨HO398,BK394,BK395,HB⟩:=n_;clear hb ho6;have hnb7:=NB394_395.out;have hnc7:=NB395_394.out;obtain ⟨hcz8_0,hcz8_1,hcz8_2,hcz8_3,hfz8_0,hfz8_1,hfz8_2,hfz8_3⟩:=ce4_ BK394)|((with_reducible refine gate_builtin (b:= .append) (xs:=#[.tmp 3,.tmp 5]) rfl ?_);at_builtin;refine Kd.R_append_rows k55 (w0:=w) w.heap.size rfl (.tmp 3) (.tmp 5) 48 55 (.agg #[(.int .u8 0),(.string ⟨#[]⟩)]) 24 rfl Tryd.underlying48 info55 rfl (by decide) (by omega) v397 y396 l0_3 _ _ _ (fun _=>True) (fun _=>False) rfl rfl ?aO ?aR (fun _ _ h=>h) (fun _ h=>h.elim) ?aF ?aB ?aS ?aL ?_;(case aR=>exact c0_);(case aB=>exact b0_);(case aF=>exact (fun _ _=>trivial));(case aO=>exact (xR_ HO398));(case aS=>exact (below_size b0_));(case aL=>have:=LMc2.out;omega);intro v400 w9 ho hb hg hat;rw [←Ny399.out] at ho;have n_:=as4_ (blk_grown (g:=gb394) (o:= .cells #[.string a0_0,.int .u8 a0_1,.int .u8 a0_2,.slice A0_3 l0_3.length c0_3] 50 (0,0)) k0_ hg (Kd.R_ne HO398.out BK394.out (by decide))) (blk_grown (g:=gb395) (o:= .cells #[.string (⟨#[]⟩:ByteArray),.int .u8 0,.int .u8 0,.slice none 0 0] 50 (0,0)) k0_ hg (Kd.R_ne HO398.out BK395.out (by decide))) (hb) (ho);clear BK394 BK395 HB HO398;obtain ⟨BK394,BK395,HB,HO401⟩:=n_;clear ho hb hg hat;obtain ⟨Ao10,co10,eo10⟩:=Kd.R_slice HO401.out;subst eo10;obtain ⟨hcz11_0,hcz11_1,hcz11_2,hcz11_3,hfz11_0,hfz11_1,hfz11_2,hfz11_3⟩:=ce4_ BK394;obtain ⟨hcz12_0,hcz12_1,hcz12_2,hcz12_3,hfz12_0,hfz12_1,hfz12_2,hfz12_3⟩:=ce4_ BK395))
 refine bodyPost_ret (results_cell_row rfl _ _ gb395 50 #[.string a0_0,.int .u8 a0_1,.int .u8 a0_2,.slice Ao10 y399.length co10] (0,0) _ rfl (by (with_reducible repeat (first|refine blk_drewN ?_ _|refine blk_drew ?_|refine blk_alloc ?_ _));refine blk_put (cs:=#[.string a0_0,.int .u8 a0_1,.int .u8 a0_2,.slice none 0 0]) ?_ 3 _ rfl;(with_reducible repeat (first|refine blk_drewN ?_ _|refine blk_drew ?_|refine blk_alloc ?_ _));refine blk_put (cs:=#[.string a0_0,.int .u8 a0_1,.int .u8 0,.slice none 0 0]) ?_ 2 _ rfl;(with_reducible repeat (first|refine blk_drewN ?_ _|refine blk_drew ?_|refine blk_alloc ?_ _));refine blk_put (cs:=#[.string a0_0,.int .u8 0,.int .u8 0,.slice none 0 0]) ?_ 1 _ rfl;(with_reducible repeat (first|refine blk_drewN ?_ _|refine blk_drew ?_|refine blk_alloc ?_ _));refine blk_put (cs:=#[.string (⟨#[]⟩:ByteArray),.int .u8 0,.int .u8 0,.slice none 0 0]) ?_ 0 _ rfl;(with_reducible repeat (first|refine blk_drewN ?_ _|refine blk_drew ?_|refine blk_alloc ?_ _));refine blk_far ?_ NB395_394.out _;(with_reducible repeat (first|refine blk_drewN ?_ _|refine blk_drew ?_|refine blk_alloc ?_ _));exact BK395.out) Tryd.underlying50 rfl (by kernel_rfl)) rfl ?_
 exact ⟨_,r1_,by (with_reducible repeat (first|apply Kd.R_alloc|apply Kd.R_drewN|apply Kd.R_drew));exact Kd.R_mono (Kd.R_far (p:=⟨gb395,3,none⟩) (Kd.R_far (p:=⟨gb395,2,none⟩) (Kd.R_far (p:=⟨gb395,1,none⟩) (Kd.R_far (p:=⟨gb395,0,none⟩) (Kd.R_far (p:=⟨gb394,3,none⟩) (Kd.R_types (Kd.R_types HO401.out BK394.out (by decide)) BK395.out (by decide)) (fun _ hk=>hk.1.2) (.slice Ao10 y399.length co10)) (fun _ hk=>hk.2) (.string a0_0)) (fun _ hk=>hk.2) (.int .u8 a0_1)) (fun _ hk=>hk.2) (.int .u8 a0_2)) (fun _ hk=>hk.2) (.slice Ao10 y399.length co10)) (fun _ hk=>trivial),b0_⟩
 }
 {
 rw [if_neg c2] at H
 exact absurd H (by simp)
 }
end
end Go.Proofs.YtdlolaognnbhpaaDoor.Pr
