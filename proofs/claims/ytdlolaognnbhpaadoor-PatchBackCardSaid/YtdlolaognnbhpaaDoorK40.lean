/- A part of the proof of laws of this seat: PatchBack, PatchMetric. Conditions: none of our own. -/
import Derived.Test.YtdlolaognnbhpaaDoorK28
import Derived.Test.YtdlolaognnbhpaaDoorK34
namespace Go.Proofs.YtdlolaognnbhpaaDoor.Rec
open Go.RowKit Go.Proofs.YtdlolaognnbhpaaDoorW.PrintWords Go.Proofs.YtdlolaognnbhpaaDoor.Pr Go.Proofs.YtdlolaognnbhpaaDoor.Lcs Classical
set_option linter.unusedVariables false
set_option linter.unusedSimpArgs false
theorem lawfew_ev (i j:Int) (a b:List Fd) (ha:Small a) (hb:Small b):∃ c,Ev (fun k=>bookplatelaw18_few.f k i a j b) c∧(c=true→Cnt a∧Cnt b∧vRec i a=true∧vRec j b=true∧i=j):=by
 unfold bookplatelaw18_few.f
 obtain ⟨x,hx,gx⟩:=few_ev i a 12 ha
 cases x with
 |false=>exact ⟨false,Ev.bind hx (Ev.neg (by decide) (Ev.pure _)),fun h=>by cases h⟩
 |true=>
  (
 obtain ⟨y,hy,gy⟩:=few_ev j b 12 hb
 cases y with
 |false=>exact ⟨false,Ev.bind hx (Ev.pos rfl (Ev.bind hy (Ev.neg (by decide) (Ev.pure _)))),fun h=>by cases h⟩
 |true=>
  (
 have ca:=(gx rfl).cnt (by decide)
 have cb:=(gy rfl).cnt (by decide)
 have ra:=refrec_ev i a ca.1 ca.vals
 have rb:=refrec_ev j b cb.1 cb.vals
 cases h1:vRec i a with
 |false=>
  (
 rw [h1] at ra
 exact ⟨false,Ev.bind hx (Ev.pos rfl (Ev.bind hy (Ev.pos rfl (Ev.bind ra (Ev.neg (by decide) (Ev.pure _)))))),fun h=>by cases h⟩
  )
 |true=>
  (
 rw [h1] at ra
 cases h2:vRec j b with
 |false=>
  (
 rw [h2] at rb
 exact ⟨false,Ev.bind hx (Ev.pos rfl (Ev.bind hy (Ev.pos rfl (Ev.bind ra (Ev.pos rfl (Ev.bind rb (Ev.neg (by decide) (Ev.pure _)))))))),fun h=>by cases h⟩
  )
 |true=>
  (
 rw [h2] at rb
 exact ⟨i==j,Ev.bind hx (Ev.pos rfl (Ev.bind hy (Ev.pos rfl (Ev.bind ra (Ev.pos rfl (Ev.bind rb (Ev.pos rfl (Ev.pure _)))))))),fun h=>⟨ca,cb,rfl,rfl,by simpa using h⟩⟩
  )
  )
  )
  )
end Go.Proofs.YtdlolaognnbhpaaDoor.Rec
