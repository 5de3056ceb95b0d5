/- A part of the proof of laws of this seat: PatchDiff. Conditions: none of our own. -/
import Derived.Test.YtdlolaognnbhpaaDoorK23
import Derived.Test.YtdlolaognnbhpaaDoorK34
namespace Go.Proofs.YtdlolaognnbhpaaDoor.Rec
open Go.RowKit Go.Proofs.YtdlolaognnbhpaaDoorW.PrintWords Go.Proofs.YtdlolaognnbhpaaDoor.Pr Go.Proofs.YtdlolaognnbhpaaDoor.Lcs Classical
set_option linter.unusedVariables false
set_option linter.unusedSimpArgs false
theorem patchDiff_ev (i j:Int) (a b:List Fd) (ha:Small a) (hb:Small b):Ev (fun k=>bookplatelaw18_PatchDiff.f k i a j b) true:=by
 have yes:Ev (fun k=>bookplatelaw18_PatchDiff.j0 k true i a j b) true:=Ev.step (g:=fun _=>some true) (fun k=>by rw [bookplatelaw18_PatchDiff.j0,if_pos rfl]) (Ev.pure _)
 unfold bookplatelaw18_PatchDiff.f
 refine Ev.bind awake_ev (Ev.pos rfl ?_)
 obtain ⟨x,hx,gx⟩:=few_ev i a 61 ha
 obtain ⟨y,hy,gy⟩:=few_ev j b 12 hb
 refine Ev.bind hx ?_
 cases x with
 |false=>exact Ev.neg (by decide) yes
 |true=>
  (
 refine Ev.pos rfl (Ev.bind hy ?_)
 cases y with
 |false=>exact yes
 |true=>
  (
 have ca:=(gx rfl).cnt (by decide)
 have cb:=(gy rfl).cnt (by decide)
 have hs:=dv_small i j a b ca cb
 refine Ev.step (fun k=>by rw [Bool.not_true,bookplatelaw18_PatchDiff.j0,if_neg (by decide)]) (Ev.bind (diff_ev i j a b ca cb) (Ev.bind (refdiff_ev i j a b ca cb) (Ev.bind (theirs_ev (dv i a j b).1 (by omega)) (Ev.bind (refsameL_ev _ (by rw [List.length_map];omega) (map_small _ hs.2)) (Ev.pos rfl ((Ev.pure _).cast ?_))))))
 simp
  )
  )
end Go.Proofs.YtdlolaognnbhpaaDoor.Rec
