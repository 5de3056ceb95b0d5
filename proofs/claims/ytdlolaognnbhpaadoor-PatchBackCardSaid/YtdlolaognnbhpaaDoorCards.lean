/-
  DERIVED. GIVEN WITH THE SEED: THE CARDS: each row of YtdlolaognnbhpaaDoorRows.lean that lists a variable, with what it lists TIED to the program's text (the seventh form; the later family's looks); each row that meets fmt, with fmt's text TOLD by the authors' own Lean function (tested against real Go, not proved from fmt's source: count such statements apart). THE CARD IS WHAT COUNTS. Prove the row's statement (the work); the ties are given (YtdlolaognnbhpaaDoorTie.lean); close each card by the builder's one call (the guide's Derived/Test/ToyasCard.lean, 'card_holds'). Laid BY PROGRAM, IN A SANDBOX (cutbox-door.mjs). By AI agents, Wed Nov 11 2026. No macro, syntax, notation, axiom, sorry.
-/
import Derived.Test.YtdlolaognnbhpaaDoorRows
import GoSem.ClaimSeven
namespace Go.Proofs.YtdlolaognnbhpaaDoor
namespace Rows

/-- THE TIED CARD OF 'bookplatelaw18.PatchDiff'. -/
def patchDiffCard : Claim7 := { stood := { row := patchDiffRow, standIns := [], harness := (true, "7767fa23495d68dcdcc946676fa86305c1e542ddbb58103b171a753d9cb756c9"), looks := false }, kinds := [], alts := [], laidByText := true, laidKinds := [.data, .pinned], laidTests := true, laidLooks := .later }
def PatchDiffCardSaid : Prop := Claim7.holds Tryd.pinned (.plain (OpenSpec.ofChange patchDiffSpec)) patchDiffCard

/-- THE TIED CARD OF 'bookplatelaw18.PatchLeast'. -/
def patchLeastCard : Claim7 := { stood := { row := patchLeastRow, standIns := [], harness := (true, "7767fa23495d68dcdcc946676fa86305c1e542ddbb58103b171a753d9cb756c9"), looks := false }, kinds := [], alts := [], laidByText := true, laidKinds := [.data, .pinned], laidTests := true, laidLooks := .later }
def PatchLeastCardSaid : Prop := Claim7.holds Tryd.pinned (.plain (OpenSpec.ofChange patchLeastSpec)) patchLeastCard

/-- THE TIED CARD OF 'bookplatelaw18.PatchMetric'. -/
def patchMetricCard : Claim7 := { stood := { row := patchMetricRow, standIns := [], harness := (true, "7767fa23495d68dcdcc946676fa86305c1e542ddbb58103b171a753d9cb756c9"), looks := false }, kinds := [], alts := [], laidByText := true, laidKinds := [.data, .pinned], laidTests := true, laidLooks := .later }
def PatchMetricCardSaid : Prop := Claim7.holds Tryd.pinned (.plain (OpenSpec.ofChange patchMetricSpec)) patchMetricCard

/-- THE TIED CARD OF 'bookplatelaw18.PatchBack'. -/
def patchBackCard : Claim7 := { stood := { row := patchBackRow, standIns := [], harness := (true, "7767fa23495d68dcdcc946676fa86305c1e542ddbb58103b171a753d9cb756c9"), looks := false }, kinds := [], alts := [], laidByText := true, laidKinds := [.data, .pinned], laidTests := true, laidLooks := .later }
def PatchBackCardSaid : Prop := Claim7.holds Tryd.pinned (.plain (OpenSpec.ofChange patchBackSpec)) patchBackCard

/-- THE SECOND FORM's CARD OF 'bookplatelaw18.PatchDiff'. -/
def patchDiffUptoCard : Claim7 := { stood := { row := patchDiffUptoRow, standIns := [], harness := (true, "7767fa23495d68dcdcc946676fa86305c1e542ddbb58103b171a753d9cb756c9"), looks := false }, kinds := [], alts := [], laidByText := true, laidKinds := [.data, .pinned], laidTests := true, laidLooks := .later }
def PatchDiffUptoCardSaid : Prop := Claim7.holds Tryd.pinned (.plain (OpenSpec.upto patchDiffSpec)) patchDiffUptoCard

/-- THE SECOND FORM's CARD OF 'bookplatelaw18.PatchLeast'. -/
def patchLeastUptoCard : Claim7 := { stood := { row := patchLeastUptoRow, standIns := [], harness := (true, "7767fa23495d68dcdcc946676fa86305c1e542ddbb58103b171a753d9cb756c9"), looks := false }, kinds := [], alts := [], laidByText := true, laidKinds := [.data, .pinned], laidTests := true, laidLooks := .later }
def PatchLeastUptoCardSaid : Prop := Claim7.holds Tryd.pinned (.plain (OpenSpec.upto patchLeastSpec)) patchLeastUptoCard

/-- THE SECOND FORM's CARD OF 'bookplatelaw18.PatchMetric'. -/
def patchMetricUptoCard : Claim7 := { stood := { row := patchMetricUptoRow, standIns := [], harness := (true, "7767fa23495d68dcdcc946676fa86305c1e542ddbb58103b171a753d9cb756c9"), looks := false }, kinds := [], alts := [], laidByText := true, laidKinds := [.data, .pinned], laidTests := true, laidLooks := .later }
def PatchMetricUptoCardSaid : Prop := Claim7.holds Tryd.pinned (.plain (OpenSpec.upto patchMetricSpec)) patchMetricUptoCard

/-- THE SECOND FORM's CARD OF 'bookplatelaw18.PatchBack'. -/
def patchBackUptoCard : Claim7 := { stood := { row := patchBackUptoRow, standIns := [], harness := (true, "7767fa23495d68dcdcc946676fa86305c1e542ddbb58103b171a753d9cb756c9"), looks := false }, kinds := [], alts := [], laidByText := true, laidKinds := [.data, .pinned], laidTests := true, laidLooks := .later }
def PatchBackUptoCardSaid : Prop := Claim7.holds Tryd.pinned (.plain (OpenSpec.upto patchBackSpec)) patchBackUptoCard
end Rows
end Go.Proofs.YtdlolaognnbhpaaDoor
