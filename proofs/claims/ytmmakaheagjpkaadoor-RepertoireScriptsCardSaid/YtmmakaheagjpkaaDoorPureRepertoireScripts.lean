/- The plain law RepertoireScripts. -/
import Derived.Test.YtmmakaheagjpkaaDoorPure04a
namespace Go.Proofs.YtmmakaheagjpkaaDoor.Pure
open Go.Proofs.YtmmakaheagjpkaaDoor.Pr
theorem RepertoireScripts : bookplatelaw04_RepertoireScripts.Pure := Rep.RepertoireScripts
end Go.Proofs.YtmmakaheagjpkaaDoor.Pure
