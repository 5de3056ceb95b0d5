/- A part of the proof of laws of this seat: PatchBack. Conditions: none of our own. -/
import Derived.Test.YtdlolaognnbhpaaDoorK31
import Derived.Test.YtdlolaognnbhpaaDoorK40
namespace Go.Proofs.YtdlolaognnbhpaaDoor.Rec
open Go.RowKit Go.Proofs.YtdlolaognnbhpaaDoorW.PrintWords Go.Proofs.YtdlolaognnbhpaaDoor.Pr Go.Proofs.YtdlolaognnbhpaaDoor.Lcs Classical
set_option linter.unusedVariables false
set_option linter.unusedSimpArgs false
theorem patchBack_ev (i j:Int) (a b:List Fd) (ha:Small a) (hb:Small b):Ev (fun k=>bookplatelaw18_PatchBack.f k i a j b) true:=by
 unfold bookplatelaw18_PatchBack.f
 refine Ev.bind awake_ev (Ev.pos rfl ?_)
 obtain ⟨x,hx,gx⟩:=lawfew_ev i j a b ha hb
 refine Ev.bind hx ?_
 cases x with
 |false=>exact Ev.neg (by decide) (Ev.pure _)
 |true=>
  (
 obtain ⟨ca,cb,ra,rb,h1⟩:=gx rfl
 have la:=(vRec_len ra).2
 have lb:=(vRec_len rb).2
 have ce:=cntE_edits ca cb la lb
 have cr:=cntE_backs ca cb la lb
 have z:=size_le a b
 have z2:=size_backs a b
 have p:=apply_ev i a ca (edits a b) ce (by omega)
 rw [av_edits ra rb] at p
 have q:=apply_ev j b cb (backs a b) cr (by omega)
 rw [av_backs ra rb] at q
 have m:=invert_ev (edits a b) ce (ordered_edits a b) (fun e he=>by have:=place_fits (fits_edits a b) e he;omega) (by omega)
 rw [inv_edits] at m
 have n:=invert_ev (backs a b) cr (ordered_backs a b) (fun e he=>by have:=place_fits (fits_backs a b) e he;omega) (by omega)
 rw [inv_backs] at n
 have s:=diffs_ok ca ca ra ra rfl
 rw [edits_same] at s
 have v:=valid_ev (edits a b) ce
 rw [decide_eq_true (ordered_edits _ _)] at v
 have hs:=edits_small a b ca cb (by omega) (by omega)
 have t:=theirs_ev (edits a b) (by omega)
 refine Ev.pos rfl (Ev.bind (diffs_ok ca cb ra rb h1) (Ev.bind p (Ev.bind m (Ev.bind q (Ev.bind n (Ev.bind s (Ev.pos rfl (Ev.pos rfl (Ev.pos rfl (Ev.pos rfl (Ev.pos rfl (Ev.pos rfl ?_))))))))))))
 exact Ev.bind ((refequal_eq i j b b cb.small).cast (decide_eq_true ⟨h1,rfl⟩)) (Ev.pos rfl (Ev.bind ((refequal_eq j i a a ca.small).cast (decide_eq_true ⟨h1.symm,rfl⟩)) (Ev.pos rfl (Ev.bind t (Ev.bind t (Ev.bind (refsameL_ev _ (by rw [List.length_map];omega) (map_small _ hs.2)) (Ev.pos rfl (Ev.pos rfl (Ev.bind v (Ev.pure _))))))))))
  )
end Go.Proofs.YtdlolaognnbhpaaDoor.Rec
