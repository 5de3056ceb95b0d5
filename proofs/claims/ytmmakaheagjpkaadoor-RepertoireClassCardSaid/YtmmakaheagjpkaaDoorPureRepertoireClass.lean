/- The plain law RepertoireClass. -/
import Derived.Test.YtmmakaheagjpkaaDoorPure04a
namespace Go.Proofs.YtmmakaheagjpkaaDoor.Pure
open Go.Proofs.YtmmakaheagjpkaaDoor.Pr
theorem RepertoireClass : bookplatelaw04_RepertoireClass.Pure := Rep.RepertoireClass
end Go.Proofs.YtmmakaheagjpkaaDoor.Pure
