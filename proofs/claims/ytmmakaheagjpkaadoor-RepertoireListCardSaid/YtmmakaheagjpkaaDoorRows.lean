/-
  NARROWER THAN 'FOR EVERY INPUT', by the rows' own cells (each row's printed sentence says how): RepertoireClass: laid · RepertoireDecode: laid · RepertoireScripts: laid · RepertoireList: laid · RepertoireEncode: laid · RepertoireInverse: laid · RepertoireCut: laid.
  DERIVED. THE GIVEN ROWS OF THIS SEAT. 7 by the template 'for every input the law returns true; each argument reads behind the call as it read before'; 0 by the template 'total and deterministic' (their statements: YtmmakaheagjpkaaDoorTotals.lean).
  GIVEN WITH THE SEED: the statements are not yours to turn. If you find one false, say at which input.
  Laid BY PROGRAM, IN A SANDBOX (cutbox-rows.mjs): the forced cells as the released guide's own fill.sh prints them over the translation 69e6c0f0322e6ff6… (all of the seat's roots in one cut). By AI agents, Wed Nov 11 2026. No macro, syntax, notation, axiom, sorry.
-/
import Derived.Test.YtmmakaheagjpkaaDoorChecked
import GoSem.PinnedTables
import GoSem.Claim
import GoSem.ClaimJoined
import GoSem.ClaimMapViews
import Derived.JoinedTies
import Derived.KernelRfl
namespace Go.Proofs.YtmmakaheagjpkaaDoor
/- THE CELL 'sum', in the pinned program and in every row, IS THE sha256 OF THE DUMP (.gsa) THAT YtmmakaheagjpkaaDoorProg.lean LOADS. Nothing in Lean hashes anything: it is a label: what it is worth is what the hold of that sum in a sandbox is worth. -/
noncomputable def Tryd.pinned : Pinned := { name := "ytmmakaheagjpkaadoor", sum := "69e6c0f0322e6ff6af7afb6262a07cac29a071668db41237b8c54346f1dbee8b", checked := Tryd.checked }
namespace Rows
def none {H : Type} : Left H := { results := [], args := [] }

/- WHAT THE LISTED PACKAGE-LEVEL VARIABLES READ AS WHEN THE CALL BEGINS. Each datum BY PROGRAM (the guide's laid-datum.mjs) off the statement by which the dump's own 'gosem.cut.vars' lays the variable. In a bare row this is a premise. The card (YtmmakaheagjpkaaDoorCards.lean) ties it to the program's text. -/
def laid_unicode_utf8_acceptRanges {H : Type} : DataW H := .agg [.agg [.lit (.int .u8 128), .lit (.int .u8 191)], .agg [.lit (.int .u8 160), .lit (.int .u8 191)], .agg [.lit (.int .u8 128), .lit (.int .u8 159)], .agg [.lit (.int .u8 144), .lit (.int .u8 191)], .agg [.lit (.int .u8 128), .lit (.int .u8 143)], .agg [.lit (.int .u8 0), .lit (.int .u8 0)], .agg [.lit (.int .u8 0), .lit (.int .u8 0)], .agg [.lit (.int .u8 0), .lit (.int .u8 0)], .agg [.lit (.int .u8 0), .lit (.int .u8 0)], .agg [.lit (.int .u8 0), .lit (.int .u8 0)], .agg [.lit (.int .u8 0), .lit (.int .u8 0)], .agg [.lit (.int .u8 0), .lit (.int .u8 0)], .agg [.lit (.int .u8 0), .lit (.int .u8 0)], .agg [.lit (.int .u8 0), .lit (.int .u8 0)], .agg [.lit (.int .u8 0), .lit (.int .u8 0)], .agg [.lit (.int .u8 0), .lit (.int .u8 0)]]
/-- One of Go's own tables, pinned by name: the form's constant. -/
def laid_unicode_utf8_first : DataW Unit := Go.Pinned.utf8First

/-- 'bookplatelaw04.RepertoireClass': WHATEVER THE INPUT: true; the input reads as it did. -/
def repertoireClassSpec : ChangeSpec := { name := "repertoireClass", fn := fun _ => fun
  | [d] => { results := [.lit (.bool true)], args := [d] }
  | _ => none }
def repertoireClassRow : OpenClaim := { program := "ytmmakaheagjpkaadoor", sum := "69e6c0f0322e6ff6af7afb6262a07cac29a071668db41237b8c54346f1dbee8b", func := "bookplate/bookplatelaw04.RepertoireClass", spec := "repertoireClass", inPlace := ["internal/bytealg.IndexByteString", "internal/bytealg.IndexString"], named := ["unicode/utf8.first", "unicode/utf8.acceptRanges", "internal/bytealg.MaxLen"], apart := false, laid := [("unicode/utf8.acceptRanges", laid_unicode_utf8_acceptRanges), ("unicode/utf8.first", laid_unicode_utf8_first)] }
def RepertoireClassSaid : Prop := repertoireClassRow.holds Tryd.pinned (OpenSpec.ofChange repertoireClassSpec)

/-- ITS FALSE NEIGHBOUR: 'it returns false'. Refute it at one input. -/
def repertoireClassWrong : ChangeSpec := { name := "repertoireClass", fn := fun _ => fun
  | [d] => { results := [.lit (.bool false)], args := [d] }
  | _ => none }
def RepertoireClassWrongFalsely : Prop := repertoireClassRow.holds Tryd.pinned (OpenSpec.ofChange repertoireClassWrong)

/-- 'bookplatelaw04.RepertoireDecode': WHATEVER THE INPUT: true; the input reads as it did. -/
def repertoireDecodeSpec : ChangeSpec := { name := "repertoireDecode", fn := fun _ => fun
  | [d] => { results := [.lit (.bool true)], args := [d] }
  | _ => none }
def repertoireDecodeRow : OpenClaim := { program := "ytmmakaheagjpkaadoor", sum := "69e6c0f0322e6ff6af7afb6262a07cac29a071668db41237b8c54346f1dbee8b", func := "bookplate/bookplatelaw04.RepertoireDecode", spec := "repertoireDecode", inPlace := ["internal/bytealg.IndexByteString", "internal/bytealg.IndexString"], named := ["unicode/utf8.first", "unicode/utf8.acceptRanges", "internal/bytealg.MaxLen"], apart := false, laid := [("unicode/utf8.acceptRanges", laid_unicode_utf8_acceptRanges), ("unicode/utf8.first", laid_unicode_utf8_first)] }
def RepertoireDecodeSaid : Prop := repertoireDecodeRow.holds Tryd.pinned (OpenSpec.ofChange repertoireDecodeSpec)

/-- ITS FALSE NEIGHBOUR: 'it returns false'. Refute it at one input. -/
def repertoireDecodeWrong : ChangeSpec := { name := "repertoireDecode", fn := fun _ => fun
  | [d] => { results := [.lit (.bool false)], args := [d] }
  | _ => none }
def RepertoireDecodeWrongFalsely : Prop := repertoireDecodeRow.holds Tryd.pinned (OpenSpec.ofChange repertoireDecodeWrong)

/-- 'bookplatelaw04.RepertoireScripts': WHATEVER THE INPUT: true; the input reads as it did. -/
def repertoireScriptsSpec : ChangeSpec := { name := "repertoireScripts", fn := fun _ => fun
  | [d1, d2] => { results := [.lit (.bool true)], args := [d1, d2] }
  | _ => none }
def repertoireScriptsRow : OpenClaim := { program := "ytmmakaheagjpkaadoor", sum := "69e6c0f0322e6ff6af7afb6262a07cac29a071668db41237b8c54346f1dbee8b", func := "bookplate/bookplatelaw04.RepertoireScripts", spec := "repertoireScripts", inPlace := ["internal/bytealg.IndexByteString", "internal/bytealg.IndexString"], named := ["unicode/utf8.first", "unicode/utf8.acceptRanges", "internal/bytealg.MaxLen"], apart := false, laid := [("unicode/utf8.acceptRanges", laid_unicode_utf8_acceptRanges), ("unicode/utf8.first", laid_unicode_utf8_first)] }
def RepertoireScriptsSaid : Prop := repertoireScriptsRow.holds Tryd.pinned (OpenSpec.ofChange repertoireScriptsSpec)

/-- ITS FALSE NEIGHBOUR: 'it returns false'. Refute it at one input. -/
def repertoireScriptsWrong : ChangeSpec := { name := "repertoireScripts", fn := fun _ => fun
  | [d1, d2] => { results := [.lit (.bool false)], args := [d1, d2] }
  | _ => none }
def RepertoireScriptsWrongFalsely : Prop := repertoireScriptsRow.holds Tryd.pinned (OpenSpec.ofChange repertoireScriptsWrong)

/-- 'bookplatelaw04.RepertoireList': WHATEVER THE INPUT: true; the input reads as it did. -/
def repertoireListSpec : ChangeSpec := { name := "repertoireList", fn := fun _ => fun
  | [d] => { results := [.lit (.bool true)], args := [d] }
  | _ => none }
def repertoireListRow : OpenClaim := { program := "ytmmakaheagjpkaadoor", sum := "69e6c0f0322e6ff6af7afb6262a07cac29a071668db41237b8c54346f1dbee8b", func := "bookplate/bookplatelaw04.RepertoireList", spec := "repertoireList", inPlace := ["internal/bytealg.IndexByteString", "internal/bytealg.IndexString"], named := ["unicode/utf8.first", "unicode/utf8.acceptRanges", "internal/bytealg.MaxLen"], apart := false, laid := [("unicode/utf8.acceptRanges", laid_unicode_utf8_acceptRanges), ("unicode/utf8.first", laid_unicode_utf8_first)] }
def RepertoireListSaid : Prop := repertoireListRow.holds Tryd.pinned (OpenSpec.ofChange repertoireListSpec)

/-- ITS FALSE NEIGHBOUR: 'it returns false'. Refute it at one input. -/
def repertoireListWrong : ChangeSpec := { name := "repertoireList", fn := fun _ => fun
  | [d] => { results := [.lit (.bool false)], args := [d] }
  | _ => none }
def RepertoireListWrongFalsely : Prop := repertoireListRow.holds Tryd.pinned (OpenSpec.ofChange repertoireListWrong)

/-- 'bookplatelaw04.RepertoireEncode': WHATEVER THE INPUT: true; the input reads as it did. -/
def repertoireEncodeSpec : ChangeSpec := { name := "repertoireEncode", fn := fun _ => fun
  | [d] => { results := [.lit (.bool true)], args := [d] }
  | _ => none }
def repertoireEncodeRow : OpenClaim := { program := "ytmmakaheagjpkaadoor", sum := "69e6c0f0322e6ff6af7afb6262a07cac29a071668db41237b8c54346f1dbee8b", func := "bookplate/bookplatelaw04.RepertoireEncode", spec := "repertoireEncode", inPlace := ["internal/bytealg.IndexByteString", "internal/bytealg.IndexString", "internal/abi.NoEscape"], named := ["unicode/utf8.first", "unicode/utf8.acceptRanges", "internal/bytealg.MaxLen"], apart := false, laid := [("unicode/utf8.acceptRanges", laid_unicode_utf8_acceptRanges), ("unicode/utf8.first", laid_unicode_utf8_first)] }
def RepertoireEncodeSaid : Prop := repertoireEncodeRow.holds Tryd.pinned (OpenSpec.ofChange repertoireEncodeSpec)

/-- ITS FALSE NEIGHBOUR: 'it returns false'. Refute it at one input. -/
def repertoireEncodeWrong : ChangeSpec := { name := "repertoireEncode", fn := fun _ => fun
  | [d] => { results := [.lit (.bool false)], args := [d] }
  | _ => none }
def RepertoireEncodeWrongFalsely : Prop := repertoireEncodeRow.holds Tryd.pinned (OpenSpec.ofChange repertoireEncodeWrong)

/-- 'bookplatelaw04.RepertoireInverse': WHATEVER THE INPUT: true; the input reads as it did. -/
def repertoireInverseSpec : ChangeSpec := { name := "repertoireInverse", fn := fun _ => fun
  | [d1, d2] => { results := [.lit (.bool true)], args := [d1, d2] }
  | _ => none }
def repertoireInverseRow : OpenClaim := { program := "ytmmakaheagjpkaadoor", sum := "69e6c0f0322e6ff6af7afb6262a07cac29a071668db41237b8c54346f1dbee8b", func := "bookplate/bookplatelaw04.RepertoireInverse", spec := "repertoireInverse", inPlace := ["internal/bytealg.IndexByteString", "internal/bytealg.IndexString", "internal/abi.NoEscape"], named := ["unicode/utf8.first", "unicode/utf8.acceptRanges", "internal/bytealg.MaxLen"], apart := false, laid := [("unicode/utf8.acceptRanges", laid_unicode_utf8_acceptRanges), ("unicode/utf8.first", laid_unicode_utf8_first)] }
def RepertoireInverseSaid : Prop := repertoireInverseRow.holds Tryd.pinned (OpenSpec.ofChange repertoireInverseSpec)

/-- ITS FALSE NEIGHBOUR: 'it returns false'. Refute it at one input. -/
def repertoireInverseWrong : ChangeSpec := { name := "repertoireInverse", fn := fun _ => fun
  | [d1, d2] => { results := [.lit (.bool false)], args := [d1, d2] }
  | _ => none }
def RepertoireInverseWrongFalsely : Prop := repertoireInverseRow.holds Tryd.pinned (OpenSpec.ofChange repertoireInverseWrong)

/-- 'bookplatelaw04.RepertoireCut': WHATEVER THE INPUT: true; the input reads as it did. -/
def repertoireCutSpec : ChangeSpec := { name := "repertoireCut", fn := fun _ => fun
  | [d1, d2] => { results := [.lit (.bool true)], args := [d1, d2] }
  | _ => none }
def repertoireCutRow : OpenClaim := { program := "ytmmakaheagjpkaadoor", sum := "69e6c0f0322e6ff6af7afb6262a07cac29a071668db41237b8c54346f1dbee8b", func := "bookplate/bookplatelaw04.RepertoireCut", spec := "repertoireCut", inPlace := ["internal/bytealg.IndexByteString", "internal/bytealg.IndexString", "internal/abi.NoEscape"], named := ["unicode/utf8.first", "unicode/utf8.acceptRanges", "internal/bytealg.MaxLen"], apart := false, laid := [("unicode/utf8.acceptRanges", laid_unicode_utf8_acceptRanges), ("unicode/utf8.first", laid_unicode_utf8_first)] }
def RepertoireCutSaid : Prop := repertoireCutRow.holds Tryd.pinned (OpenSpec.ofChange repertoireCutSpec)

/-- ITS FALSE NEIGHBOUR: 'it returns false'. Refute it at one input. -/
def repertoireCutWrong : ChangeSpec := { name := "repertoireCut", fn := fun _ => fun
  | [d1, d2] => { results := [.lit (.bool false)], args := [d1, d2] }
  | _ => none }
def RepertoireCutWrongFalsely : Prop := repertoireCutRow.holds Tryd.pinned (OpenSpec.ofChange repertoireCutWrong)

/- THE SECOND FORM. 'bulk': how many values and letters a reading holds, each counted each time it is reached (what is shared counts as often as it is met; a slice's spare places count too). A statement '..UptoSaid' is the law's where the arguments, and the package variables that the reading takes, are together of bulk at most 1048576: NARROWER than '..Said'. Prove '..Said' where nothing that the law and all that it calls make is longer than what came in: it says more and counts as full. Else prove '..UptoSaid'. A law counts once. -/
mutual
def uptoBulk {H : Type} : DataW H → Nat
  | .lit (.string bytes) => bytes.length + 1
  | .lit _ => 1
  | .nil => 1
  | .ptr d => uptoBulk d + 1
  | .slice elems spare => uptoBulkAll elems + uptoBulkAll spare + 1
  | .agg parts => uptoBulkAll parts + 1
  | .iface _ d => uptoBulk d + 1
  | .map entries => uptoBulkEntries entries + 1
  | .held _ => 1
def uptoBulkAll {H : Type} : List (DataW H) → Nat
  | [] => 0
  | d :: r => uptoBulk d + uptoBulkAll r
def uptoBulkEntries {H : Type} : List (Lit × DataW H) → Nat
  | [] => 0
  | x :: r => uptoBulkEntry x + uptoBulkEntries r
def uptoBulkEntry {H : Type} : Lit × DataW H → Nat
  | (.string bytes, d) => bytes.length + uptoBulk d + 1
  | (_, d) => uptoBulk d + 1
 end
def uptoSmall : (H : Type) → List (DataW H) → Bool := fun _ ds => decide (uptoBulkAll ds ≤ 1048576)
def OpenSpec.upto (s : _root_.Go.ChangeSpec) : _root_.Go.OpenSpec := { _root_.Go.OpenSpec.ofChange s with cond := some uptoSmall }

/-- 'bookplatelaw04.RepertoireClass', WHERE WHAT IT READS IS OF BULK AT MOST 1048576: true; the input reads as it did. -/
def repertoireClassUptoRow : OpenClaim := { program := "ytmmakaheagjpkaadoor", sum := "69e6c0f0322e6ff6af7afb6262a07cac29a071668db41237b8c54346f1dbee8b", func := "bookplate/bookplatelaw04.RepertoireClass", spec := "repertoireClass", inPlace := ["internal/bytealg.IndexByteString", "internal/bytealg.IndexString"], named := ["unicode/utf8.first", "unicode/utf8.acceptRanges", "internal/bytealg.MaxLen"], apart := false, laid := [("unicode/utf8.acceptRanges", laid_unicode_utf8_acceptRanges), ("unicode/utf8.first", laid_unicode_utf8_first)], narrowed := true }
def RepertoireClassUptoSaid : Prop := repertoireClassUptoRow.holds Tryd.pinned (OpenSpec.upto repertoireClassSpec)

/-- 'bookplatelaw04.RepertoireDecode', WHERE WHAT IT READS IS OF BULK AT MOST 1048576: true; the input reads as it did. -/
def repertoireDecodeUptoRow : OpenClaim := { program := "ytmmakaheagjpkaadoor", sum := "69e6c0f0322e6ff6af7afb6262a07cac29a071668db41237b8c54346f1dbee8b", func := "bookplate/bookplatelaw04.RepertoireDecode", spec := "repertoireDecode", inPlace := ["internal/bytealg.IndexByteString", "internal/bytealg.IndexString"], named := ["unicode/utf8.first", "unicode/utf8.acceptRanges", "internal/bytealg.MaxLen"], apart := false, laid := [("unicode/utf8.acceptRanges", laid_unicode_utf8_acceptRanges), ("unicode/utf8.first", laid_unicode_utf8_first)], narrowed := true }
def RepertoireDecodeUptoSaid : Prop := repertoireDecodeUptoRow.holds Tryd.pinned (OpenSpec.upto repertoireDecodeSpec)

/-- 'bookplatelaw04.RepertoireScripts', WHERE WHAT IT READS IS OF BULK AT MOST 1048576: true; the input reads as it did. -/
def repertoireScriptsUptoRow : OpenClaim := { program := "ytmmakaheagjpkaadoor", sum := "69e6c0f0322e6ff6af7afb6262a07cac29a071668db41237b8c54346f1dbee8b", func := "bookplate/bookplatelaw04.RepertoireScripts", spec := "repertoireScripts", inPlace := ["internal/bytealg.IndexByteString", "internal/bytealg.IndexString"], named := ["unicode/utf8.first", "unicode/utf8.acceptRanges", "internal/bytealg.MaxLen"], apart := false, laid := [("unicode/utf8.acceptRanges", laid_unicode_utf8_acceptRanges), ("unicode/utf8.first", laid_unicode_utf8_first)], narrowed := true }
def RepertoireScriptsUptoSaid : Prop := repertoireScriptsUptoRow.holds Tryd.pinned (OpenSpec.upto repertoireScriptsSpec)

/-- 'bookplatelaw04.RepertoireList', WHERE WHAT IT READS IS OF BULK AT MOST 1048576: true; the input reads as it did. -/
def repertoireListUptoRow : OpenClaim := { program := "ytmmakaheagjpkaadoor", sum := "69e6c0f0322e6ff6af7afb6262a07cac29a071668db41237b8c54346f1dbee8b", func := "bookplate/bookplatelaw04.RepertoireList", spec := "repertoireList", inPlace := ["internal/bytealg.IndexByteString", "internal/bytealg.IndexString"], named := ["unicode/utf8.first", "unicode/utf8.acceptRanges", "internal/bytealg.MaxLen"], apart := false, laid := [("unicode/utf8.acceptRanges", laid_unicode_utf8_acceptRanges), ("unicode/utf8.first", laid_unicode_utf8_first)], narrowed := true }
def RepertoireListUptoSaid : Prop := repertoireListUptoRow.holds Tryd.pinned (OpenSpec.upto repertoireListSpec)

/-- 'bookplatelaw04.RepertoireEncode', WHERE WHAT IT READS IS OF BULK AT MOST 1048576: true; the input reads as it did. -/
def repertoireEncodeUptoRow : OpenClaim := { program := "ytmmakaheagjpkaadoor", sum := "69e6c0f0322e6ff6af7afb6262a07cac29a071668db41237b8c54346f1dbee8b", func := "bookplate/bookplatelaw04.RepertoireEncode", spec := "repertoireEncode", inPlace := ["internal/bytealg.IndexByteString", "internal/bytealg.IndexString", "internal/abi.NoEscape"], named := ["unicode/utf8.first", "unicode/utf8.acceptRanges", "internal/bytealg.MaxLen"], apart := false, laid := [("unicode/utf8.acceptRanges", laid_unicode_utf8_acceptRanges), ("unicode/utf8.first", laid_unicode_utf8_first)], narrowed := true }
def RepertoireEncodeUptoSaid : Prop := repertoireEncodeUptoRow.holds Tryd.pinned (OpenSpec.upto repertoireEncodeSpec)

/-- 'bookplatelaw04.RepertoireInverse', WHERE WHAT IT READS IS OF BULK AT MOST 1048576: true; the input reads as it did. -/
def repertoireInverseUptoRow : OpenClaim := { program := "ytmmakaheagjpkaadoor", sum := "69e6c0f0322e6ff6af7afb6262a07cac29a071668db41237b8c54346f1dbee8b", func := "bookplate/bookplatelaw04.RepertoireInverse", spec := "repertoireInverse", inPlace := ["internal/bytealg.IndexByteString", "internal/bytealg.IndexString", "internal/abi.NoEscape"], named := ["unicode/utf8.first", "unicode/utf8.acceptRanges", "internal/bytealg.MaxLen"], apart := false, laid := [("unicode/utf8.acceptRanges", laid_unicode_utf8_acceptRanges), ("unicode/utf8.first", laid_unicode_utf8_first)], narrowed := true }
def RepertoireInverseUptoSaid : Prop := repertoireInverseUptoRow.holds Tryd.pinned (OpenSpec.upto repertoireInverseSpec)

/-- 'bookplatelaw04.RepertoireCut', WHERE WHAT IT READS IS OF BULK AT MOST 1048576: true; the input reads as it did. -/
def repertoireCutUptoRow : OpenClaim := { program := "ytmmakaheagjpkaadoor", sum := "69e6c0f0322e6ff6af7afb6262a07cac29a071668db41237b8c54346f1dbee8b", func := "bookplate/bookplatelaw04.RepertoireCut", spec := "repertoireCut", inPlace := ["internal/bytealg.IndexByteString", "internal/bytealg.IndexString", "internal/abi.NoEscape"], named := ["unicode/utf8.first", "unicode/utf8.acceptRanges", "internal/bytealg.MaxLen"], apart := false, laid := [("unicode/utf8.acceptRanges", laid_unicode_utf8_acceptRanges), ("unicode/utf8.first", laid_unicode_utf8_first)], narrowed := true }
def RepertoireCutUptoSaid : Prop := repertoireCutUptoRow.holds Tryd.pinned (OpenSpec.upto repertoireCutSpec)

end Rows
end Go.Proofs.YtmmakaheagjpkaaDoor
