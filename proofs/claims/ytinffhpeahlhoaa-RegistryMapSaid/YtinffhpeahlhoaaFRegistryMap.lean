/- Facts about the row of RegistryMap and the program, by computation. -/
import Derived.Test.YtinffhpeahlhoaaRows
import Derived.Test.YtinffhpeahlhoaaChecked
import Derived.ProofKit
import Derived.OpenShut
namespace Go.Proofs.Ytinffhpeahlhoaa.registryMap
open Go.ChangeShapes Go.WideShapes Go.ChangeAt Go.RowKit

theorem joined : joinedFacts Try.pinned.checked.prog 4 Try.f4 Rows.registryMapSpec Rows.registryMapRow = true := by kernel_rfl
end Go.Proofs.Ytinffhpeahlhoaa.registryMap
