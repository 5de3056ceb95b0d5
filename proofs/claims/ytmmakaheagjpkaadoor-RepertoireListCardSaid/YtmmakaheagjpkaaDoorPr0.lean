-- printed by wip/tools/pr.py (the kit's print.py, altered in memory) for this claim. Not trusted: Lean checks it.
import Derived.Test.YtmmakaheagjpkaaDoorProg
import Derived.Below
import Derived.Deep.Draws
import Derived.Deep.AppendLies
import Derived.Maps.AppendAt
import Derived.OwnWalk
import Derived.Laws.BytesArg
import Derived.Laws.MakeOwn
import Derived.Laws.OwnMore
import Derived.Deep.OwnRows
import Derived.Tactics
import Derived.Lib.ConvBytes
import Derived.Laws.Slices
import Derived.WalkKit
import Derived.KernelRfl
import Derived.RowKit3
import Derived.Deep.LoopGhost
import Derived.Deep.QuietTactic
import Derived.BigQuiet
import Derived.WideLaws
import Derived.Deep.DeepCutAuto
import Derived.Deep.CutBlock
import Derived.Deep.RegionHeld3
import Derived.Laws.Rows
import Derived.Lib.AppendStr
import Derived.ArgAppend
import Derived.Laws.IdiomCopy
import Derived.OrdersHeld
import Derived.Laws.BitsLemmas
import Derived.RowKit
import Derived.Test.YtmmakaheagjpkaaDoorAid
import Derived.Test.YtmmakaheagjpkaaDoorRune
import Derived.Test.YtmmakaheagjpkaaDoorBuilder
import Derived.Test.YtmmakaheagjpkaaDoorWWords
import Derived.Test.YtmmakaheagjpkaaDoorWLast
import Derived.Test.YtmmakaheagjpkaaDoorWTab
import Derived.Test.YtmmakaheagjpkaaDoorWFour
import Derived.Test.YtmmakaheagjpkaaDoorWQPut
import Derived.Test.YtmmakaheagjpkaaDoorWApart
import Derived.Test.YtmmakaheagjpkaaDoorWArr
import Derived.Test.YtmmakaheagjpkaaDoorWZeros
import Derived.Test.YtmmakaheagjpkaaDoorWFoot
import Derived.Test.YtmmakaheagjpkaaDoorWKept
import Derived.Test.YtmmakaheagjpkaaDoorWShare
import Derived.Test.YtmmakaheagjpkaaDoorWN
import Derived.Test.YtmmakaheagjpkaaDoorWFootNe
import Derived.Test.YtmmakaheagjpkaaDoorWAt
import Derived.Test.YtmmakaheagjpkaaDoorWEqStruct
import Derived.Test.YtmmakaheagjpkaaDoorWRepsOne
import Derived.Test.YtmmakaheagjpkaaDoorWInv
import Derived.Test.YtmmakaheagjpkaaDoorWInvWords
import Derived.Test.YtmmakaheagjpkaaDoorWGuard
import Derived.Test.YtmmakaheagjpkaaDoorWNEv
import Derived.Test.YtmmakaheagjpkaaDoorWMore
namespace Go.Proofs.YtmmakaheagjpkaaDoor.Pr
open Go.RowKit Go.Proofs.YtmmakaheagjpkaaDoorW.PrintWords Go.Proofs.YtmmakaheagjpkaaDoorW.PrintLast Go.Proofs.YtmmakaheagjpkaaDoorW.PrintMore
noncomputable section
attribute [local go_sem] max2_int min2_int max_two min_two max_three min_three max_four min_four   -- for this text's walks alone
set_option linter.unusedVariables false
set_option linter.unusedSimpArgs false



def errW : Option Int → Value
  | none => .nilIface
  | some c => .iface 0 (.int .i64 c)
theorem errW_none : errW none = .nilIface := rfl
theorem errW_some (c : Int) : errW (some c) = .iface 0 (.int .i64 c) := rfl

theorem info3 : (Tryd.prog.info? 3).map (fun i => (i.zero, i.size, i.bytes)) = some (some (.int .i64 0), 1, 8) := by kernel_rfl
theorem info5 : (Tryd.prog.info? 5).map (fun i => (i.zero, i.size, i.bytes)) = some (some (.int .u8 0), 1, 1) := by kernel_rfl
-- the values' own types

end
end Go.Proofs.YtmmakaheagjpkaaDoor.Pr
