/-
  NARROWER THAN 'FOR EVERY INPUT', by the rows' own cells (each row's printed sentence says how): PatchDiff: laid · PatchLeast: laid · PatchMetric: laid · PatchBack: laid.
  DERIVED. THE GIVEN ROWS OF THIS SEAT. 4 by the template 'for every input the law returns true; each argument reads behind the call as it read before'; 0 by the template 'total and deterministic' (their statements: YtdlolaognnbhpaaDoorTotals.lean).
  GIVEN WITH THE SEED: the statements are not yours to turn. If you find one false, say at which input.
  Laid BY PROGRAM, IN A SANDBOX (cutbox-rows.mjs): the forced cells as the released guide's own fill.sh prints them over the translation ebef495b2ce5d475… (all of the seat's roots in one cut). By AI agents, Wed Nov 11 2026. No macro, syntax, notation, axiom, sorry.
-/
import Derived.Test.YtdlolaognnbhpaaDoorChecked
import GoSem.PinnedTables
import GoSem.Claim
import GoSem.ClaimJoined
import GoSem.ClaimMapViews
import Derived.JoinedTies
import Derived.KernelRfl
namespace Go.Proofs.YtdlolaognnbhpaaDoor
/- THE CELL 'sum', in the pinned program and in every row, IS THE sha256 OF THE DUMP (.gsa) THAT YtdlolaognnbhpaaDoorProg.lean LOADS. Nothing in Lean hashes anything: it is a label: what it is worth is what the hold of that sum in a sandbox is worth. -/
noncomputable def Tryd.pinned : Pinned := { name := "ytdlolaognnbhpaadoor", sum := "ebef495b2ce5d4750ce5dc673b27ebaacfe18fe9464bf254ceb968b02a8ee2d7", checked := Tryd.checked }
namespace Rows
def none {H : Type} : Left H := { results := [], args := [] }

/- WHAT THE LISTED PACKAGE-LEVEL VARIABLES READ AS WHEN THE CALL BEGINS. Each datum BY PROGRAM (the guide's laid-datum.mjs) off the statement by which the dump's own 'gosem.cut.vars' lays the variable. In a bare row this is a premise. The card (YtdlolaognnbhpaaDoorCards.lean) ties it to the program's text. -/
def laid_unicode_utf8_acceptRanges {H : Type} : DataW H := .agg [.agg [.lit (.int .u8 128), .lit (.int .u8 191)], .agg [.lit (.int .u8 160), .lit (.int .u8 191)], .agg [.lit (.int .u8 128), .lit (.int .u8 159)], .agg [.lit (.int .u8 144), .lit (.int .u8 191)], .agg [.lit (.int .u8 128), .lit (.int .u8 143)], .agg [.lit (.int .u8 0), .lit (.int .u8 0)], .agg [.lit (.int .u8 0), .lit (.int .u8 0)], .agg [.lit (.int .u8 0), .lit (.int .u8 0)], .agg [.lit (.int .u8 0), .lit (.int .u8 0)], .agg [.lit (.int .u8 0), .lit (.int .u8 0)], .agg [.lit (.int .u8 0), .lit (.int .u8 0)], .agg [.lit (.int .u8 0), .lit (.int .u8 0)], .agg [.lit (.int .u8 0), .lit (.int .u8 0)], .agg [.lit (.int .u8 0), .lit (.int .u8 0)], .agg [.lit (.int .u8 0), .lit (.int .u8 0)], .agg [.lit (.int .u8 0), .lit (.int .u8 0)]]
/-- One of Go's own tables, pinned by name: the form's constant. -/
def laid_unicode_utf8_first : DataW Unit := Go.Pinned.utf8First

/-- 'bookplatelaw18.PatchDiff': WHATEVER THE INPUT: true; the input reads as it did. -/
def patchDiffSpec : ChangeSpec := { name := "patchDiff", fn := fun _ => fun
  | [d1, d2] => { results := [.lit (.bool true)], args := [d1, d2] }
  | _ => none }
def patchDiffRow : OpenClaim := { program := "ytdlolaognnbhpaadoor", sum := "ebef495b2ce5d4750ce5dc673b27ebaacfe18fe9464bf254ceb968b02a8ee2d7", func := "bookplate/bookplatelaw18.PatchDiff", spec := "patchDiff", inPlace := ["internal/bytealg.IndexByteString", "internal/bytealg.IndexString"], unfollowed := true, recurses := true, named := ["unicode/utf8.first", "unicode/utf8.acceptRanges", "internal/bytealg.MaxLen"], apart := false, laid := [("unicode/utf8.acceptRanges", laid_unicode_utf8_acceptRanges), ("unicode/utf8.first", laid_unicode_utf8_first)] }
def PatchDiffSaid : Prop := patchDiffRow.holds Tryd.pinned (OpenSpec.ofChange patchDiffSpec)

/-- ITS FALSE NEIGHBOUR: 'it returns false'. Refute it at one input. -/
def patchDiffWrong : ChangeSpec := { name := "patchDiff", fn := fun _ => fun
  | [d1, d2] => { results := [.lit (.bool false)], args := [d1, d2] }
  | _ => none }
def PatchDiffWrongFalsely : Prop := patchDiffRow.holds Tryd.pinned (OpenSpec.ofChange patchDiffWrong)

/-- 'bookplatelaw18.PatchLeast': WHATEVER THE INPUT: true; the input reads as it did. -/
def patchLeastSpec : ChangeSpec := { name := "patchLeast", fn := fun _ => fun
  | [d1, d2] => { results := [.lit (.bool true)], args := [d1, d2] }
  | _ => none }
def patchLeastRow : OpenClaim := { program := "ytdlolaognnbhpaadoor", sum := "ebef495b2ce5d4750ce5dc673b27ebaacfe18fe9464bf254ceb968b02a8ee2d7", func := "bookplate/bookplatelaw18.PatchLeast", spec := "patchLeast", inPlace := ["internal/bytealg.IndexByteString", "internal/bytealg.IndexString"], unfollowed := true, recurses := true, named := ["unicode/utf8.first", "unicode/utf8.acceptRanges", "internal/bytealg.MaxLen"], apart := false, laid := [("unicode/utf8.acceptRanges", laid_unicode_utf8_acceptRanges), ("unicode/utf8.first", laid_unicode_utf8_first)] }
def PatchLeastSaid : Prop := patchLeastRow.holds Tryd.pinned (OpenSpec.ofChange patchLeastSpec)

/-- ITS FALSE NEIGHBOUR: 'it returns false'. Refute it at one input. -/
def patchLeastWrong : ChangeSpec := { name := "patchLeast", fn := fun _ => fun
  | [d1, d2] => { results := [.lit (.bool false)], args := [d1, d2] }
  | _ => none }
def PatchLeastWrongFalsely : Prop := patchLeastRow.holds Tryd.pinned (OpenSpec.ofChange patchLeastWrong)

/-- 'bookplatelaw18.PatchMetric': WHATEVER THE INPUT: true; the input reads as it did. -/
def patchMetricSpec : ChangeSpec := { name := "patchMetric", fn := fun _ => fun
  | [d1, d2, d3] => { results := [.lit (.bool true)], args := [d1, d2, d3] }
  | _ => none }
def patchMetricRow : OpenClaim := { program := "ytdlolaognnbhpaadoor", sum := "ebef495b2ce5d4750ce5dc673b27ebaacfe18fe9464bf254ceb968b02a8ee2d7", func := "bookplate/bookplatelaw18.PatchMetric", spec := "patchMetric", inPlace := ["internal/bytealg.IndexByteString", "internal/bytealg.IndexString"], unfollowed := true, recurses := true, named := ["unicode/utf8.first", "unicode/utf8.acceptRanges", "internal/bytealg.MaxLen"], apart := false, laid := [("unicode/utf8.acceptRanges", laid_unicode_utf8_acceptRanges), ("unicode/utf8.first", laid_unicode_utf8_first)] }
def PatchMetricSaid : Prop := patchMetricRow.holds Tryd.pinned (OpenSpec.ofChange patchMetricSpec)

/-- ITS FALSE NEIGHBOUR: 'it returns false'. Refute it at one input. -/
def patchMetricWrong : ChangeSpec := { name := "patchMetric", fn := fun _ => fun
  | [d1, d2, d3] => { results := [.lit (.bool false)], args := [d1, d2, d3] }
  | _ => none }
def PatchMetricWrongFalsely : Prop := patchMetricRow.holds Tryd.pinned (OpenSpec.ofChange patchMetricWrong)

/-- 'bookplatelaw18.PatchBack': WHATEVER THE INPUT: true; the input reads as it did. -/
def patchBackSpec : ChangeSpec := { name := "patchBack", fn := fun _ => fun
  | [d1, d2] => { results := [.lit (.bool true)], args := [d1, d2] }
  | _ => none }
def patchBackRow : OpenClaim := { program := "ytdlolaognnbhpaadoor", sum := "ebef495b2ce5d4750ce5dc673b27ebaacfe18fe9464bf254ceb968b02a8ee2d7", func := "bookplate/bookplatelaw18.PatchBack", spec := "patchBack", inPlace := ["internal/bytealg.IndexByteString", "internal/bytealg.IndexString"], unfollowed := true, recurses := true, named := ["unicode/utf8.first", "unicode/utf8.acceptRanges", "internal/bytealg.MaxLen"], apart := false, laid := [("unicode/utf8.acceptRanges", laid_unicode_utf8_acceptRanges), ("unicode/utf8.first", laid_unicode_utf8_first)] }
def PatchBackSaid : Prop := patchBackRow.holds Tryd.pinned (OpenSpec.ofChange patchBackSpec)

/-- ITS FALSE NEIGHBOUR: 'it returns false'. Refute it at one input. -/
def patchBackWrong : ChangeSpec := { name := "patchBack", fn := fun _ => fun
  | [d1, d2] => { results := [.lit (.bool false)], args := [d1, d2] }
  | _ => none }
def PatchBackWrongFalsely : Prop := patchBackRow.holds Tryd.pinned (OpenSpec.ofChange patchBackWrong)

/- THE SECOND FORM. 'bulk': how many values and letters a reading holds, each counted each time it is reached (what is shared counts as often as it is met; a slice's spare places count too). A statement '..UptoSaid' is the law's where the arguments, and the package variables that the reading takes, are together of bulk at most 1048576: NARROWER than '..Said'. Prove '..Said' where nothing that the law and all that it calls make is longer than what came in: it says more and counts as full. Else prove '..UptoSaid'. A law counts once. -/
mutual
def uptoBulk {H : Type} : DataW H → Nat
  | .lit (.string bytes) => bytes.length + 1
  | .lit _ => 1
  | .nil => 1
  | .ptr d => uptoBulk d + 1
  | .slice elems spare => uptoBulkAll elems + uptoBulkAll spare + 1
  | .agg parts => uptoBulkAll parts + 1
  | .iface _ d => uptoBulk d + 1
  | .map entries => uptoBulkEntries entries + 1
  | .held _ => 1
def uptoBulkAll {H : Type} : List (DataW H) → Nat
  | [] => 0
  | d :: r => uptoBulk d + uptoBulkAll r
def uptoBulkEntries {H : Type} : List (Lit × DataW H) → Nat
  | [] => 0
  | x :: r => uptoBulkEntry x + uptoBulkEntries r
def uptoBulkEntry {H : Type} : Lit × DataW H → Nat
  | (.string bytes, d) => bytes.length + uptoBulk d + 1
  | (_, d) => uptoBulk d + 1
 end
def uptoSmall : (H : Type) → List (DataW H) → Bool := fun _ ds => decide (uptoBulkAll ds ≤ 1048576)
def OpenSpec.upto (s : _root_.Go.ChangeSpec) : _root_.Go.OpenSpec := { _root_.Go.OpenSpec.ofChange s with cond := some uptoSmall }

/-- 'bookplatelaw18.PatchDiff', WHERE WHAT IT READS IS OF BULK AT MOST 1048576: true; the input reads as it did. -/
def patchDiffUptoRow : OpenClaim := { program := "ytdlolaognnbhpaadoor", sum := "ebef495b2ce5d4750ce5dc673b27ebaacfe18fe9464bf254ceb968b02a8ee2d7", func := "bookplate/bookplatelaw18.PatchDiff", spec := "patchDiff", inPlace := ["internal/bytealg.IndexByteString", "internal/bytealg.IndexString"], unfollowed := true, recurses := true, named := ["unicode/utf8.first", "unicode/utf8.acceptRanges", "internal/bytealg.MaxLen"], apart := false, laid := [("unicode/utf8.acceptRanges", laid_unicode_utf8_acceptRanges), ("unicode/utf8.first", laid_unicode_utf8_first)], narrowed := true }
def PatchDiffUptoSaid : Prop := patchDiffUptoRow.holds Tryd.pinned (OpenSpec.upto patchDiffSpec)

/-- 'bookplatelaw18.PatchLeast', WHERE WHAT IT READS IS OF BULK AT MOST 1048576: true; the input reads as it did. -/
def patchLeastUptoRow : OpenClaim := { program := "ytdlolaognnbhpaadoor", sum := "ebef495b2ce5d4750ce5dc673b27ebaacfe18fe9464bf254ceb968b02a8ee2d7", func := "bookplate/bookplatelaw18.PatchLeast", spec := "patchLeast", inPlace := ["internal/bytealg.IndexByteString", "internal/bytealg.IndexString"], unfollowed := true, recurses := true, named := ["unicode/utf8.first", "unicode/utf8.acceptRanges", "internal/bytealg.MaxLen"], apart := false, laid := [("unicode/utf8.acceptRanges", laid_unicode_utf8_acceptRanges), ("unicode/utf8.first", laid_unicode_utf8_first)], narrowed := true }
def PatchLeastUptoSaid : Prop := patchLeastUptoRow.holds Tryd.pinned (OpenSpec.upto patchLeastSpec)

/-- 'bookplatelaw18.PatchMetric', WHERE WHAT IT READS IS OF BULK AT MOST 1048576: true; the input reads as it did. -/
def patchMetricUptoRow : OpenClaim := { program := "ytdlolaognnbhpaadoor", sum := "ebef495b2ce5d4750ce5dc673b27ebaacfe18fe9464bf254ceb968b02a8ee2d7", func := "bookplate/bookplatelaw18.PatchMetric", spec := "patchMetric", inPlace := ["internal/bytealg.IndexByteString", "internal/bytealg.IndexString"], unfollowed := true, recurses := true, named := ["unicode/utf8.first", "unicode/utf8.acceptRanges", "internal/bytealg.MaxLen"], apart := false, laid := [("unicode/utf8.acceptRanges", laid_unicode_utf8_acceptRanges), ("unicode/utf8.first", laid_unicode_utf8_first)], narrowed := true }
def PatchMetricUptoSaid : Prop := patchMetricUptoRow.holds Tryd.pinned (OpenSpec.upto patchMetricSpec)

/-- 'bookplatelaw18.PatchBack', WHERE WHAT IT READS IS OF BULK AT MOST 1048576: true; the input reads as it did. -/
def patchBackUptoRow : OpenClaim := { program := "ytdlolaognnbhpaadoor", sum := "ebef495b2ce5d4750ce5dc673b27ebaacfe18fe9464bf254ceb968b02a8ee2d7", func := "bookplate/bookplatelaw18.PatchBack", spec := "patchBack", inPlace := ["internal/bytealg.IndexByteString", "internal/bytealg.IndexString"], unfollowed := true, recurses := true, named := ["unicode/utf8.first", "unicode/utf8.acceptRanges", "internal/bytealg.MaxLen"], apart := false, laid := [("unicode/utf8.acceptRanges", laid_unicode_utf8_acceptRanges), ("unicode/utf8.first", laid_unicode_utf8_first)], narrowed := true }
def PatchBackUptoSaid : Prop := patchBackUptoRow.holds Tryd.pinned (OpenSpec.upto patchBackSpec)

end Rows
end Go.Proofs.YtdlolaognnbhpaaDoor
