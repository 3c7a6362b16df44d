/- The plain law of EncodingExamples: by evaluation. -/
import Derived.Test.YtcjidibdidijaaaDoorPEncx4
namespace Go.Proofs.YtcjidibdidijaaaDoor.Pure
set_option maxRecDepth 100000 in
theorem EncodingExamples : PEnc.fullinglaw30_EncodingExamples.Pure := ⟨12, by kernel_rfl⟩
end Go.Proofs.YtcjidibdidijaaaDoor.Pure
