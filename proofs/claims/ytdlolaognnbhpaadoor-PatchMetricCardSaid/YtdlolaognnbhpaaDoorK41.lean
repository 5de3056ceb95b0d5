/- A part of the proof of laws of this seat: PatchMetric. Conditions: none of our own. -/
import Derived.Test.YtdlolaognnbhpaaDoorK29
import Derived.Test.YtdlolaognnbhpaaDoorK40
namespace Go.Proofs.YtdlolaognnbhpaaDoor.Rec
open Go.RowKit Go.Proofs.YtdlolaognnbhpaaDoorW.PrintWords Go.Proofs.YtdlolaognnbhpaaDoor.Pr Go.Proofs.YtdlolaognnbhpaaDoor.Lcs Classical
set_option linter.unusedVariables false
set_option linter.unusedSimpArgs false
theorem patchMetric_ev (i j l:Int) (a b c:List Fd) (ha:Small a) (hb:Small b) (hc:Small c):Ev (fun k=>bookplatelaw18_PatchMetric.f k i a j b l c) true:=by
 have yes:Ev (fun k=>bookplatelaw18_PatchMetric.j0 k true i a j b l c) true:=Ev.step (g:=fun _=>some true) (fun k=>by rw [bookplatelaw18_PatchMetric.j0,if_pos rfl]) (Ev.pure _)
 unfold bookplatelaw18_PatchMetric.f
 refine Ev.bind awake_ev (Ev.pos rfl ?_)
 obtain ⟨x,hx,gx⟩:=lawfew_ev i j a b ha hb
 obtain ⟨y,hy,gy⟩:=lawfew_ev j l b c hb hc
 refine Ev.bind hx ?_
 cases x with
 |false=>exact Ev.neg (by decide) yes
 |true=>
  (
 refine Ev.pos rfl (Ev.bind hy ?_)
 cases y with
 |false=>exact yes
 |true=>
  (
 obtain ⟨ca,cb,ra,rb,h1⟩:=gx rfl
 obtain ⟨_,cc,_,rc,h2⟩:=gy rfl
 have la:=(vRec_len ra).2
 have lb:=(vRec_len rb).2
 have lc:=(vRec_len rc).2
 have za:=sizes_ok la lb
 have zb:=sizes_ok lb lc
 have zc:=sizes_ok la lc
 have zd:=sizes_ok lb la
 rw [size_comm b a] at zd
 have b1:=size_le a b
 have b2:=size_le b c
 have b3:=size_triangle a b c
 refine Ev.step (fun k=>by rw [Bool.not_true,bookplatelaw18_PatchMetric.j0,if_neg (by decide)]) (Ev.bind (diffs_ok ca cb ra rb h1) (Ev.bind (diffs_ok cb cc rb rc h2) (Ev.bind (diffs_ok ca cc ra rc (h1.trans h2)) (Ev.bind (diffs_ok cb ca rb ra h1.symm) (Ev.pos rfl (Ev.bind zd (Ev.bind za (Ev.pos rfl (Ev.bind za (Ev.bind (refequal_eq i j a b ca.small) (Ev.pos ?_ (Ev.bind zc (Ev.bind za (Ev.bind zb ((Ev.pure (decide (((size (edits a c):Nat):Int)≤wrap64 (((size (edits a b):Nat):Int)+((size (edits b c):Nat):Int))))).cast ?_)))))))))))))))
 {
 by_cases e:a=b
 {
 rw [(size_zero a b).2 e,decide_eq_true (show i=j∧a=b from ⟨h1,e⟩)]
 rfl
 }
 {
 rw [decide_eq_false (show ¬ (i=j∧a=b) from fun h=>e h.2)]
 have:size (edits a b)≠0:=fun h=>e ((size_zero a b).1 h)
 simpa using this
 }
 }
 {
 rw [wr_id _ (by omega) (by omega),decide_eq_true_eq]
 omega
 }
  )
  )
end Go.Proofs.YtdlolaognnbhpaaDoor.Rec
