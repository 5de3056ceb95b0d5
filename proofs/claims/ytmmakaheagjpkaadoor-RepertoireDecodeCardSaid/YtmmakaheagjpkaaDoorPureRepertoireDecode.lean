/- The plain law RepertoireDecode. -/
import Derived.Test.YtmmakaheagjpkaaDoorPure04a
namespace Go.Proofs.YtmmakaheagjpkaaDoor.Pure
open Go.Proofs.YtmmakaheagjpkaaDoor.Pr
theorem RepertoireDecode : bookplatelaw04_RepertoireDecode.Pure := Rep.RepertoireDecode
end Go.Proofs.YtmmakaheagjpkaaDoor.Pure
