/- Facts about the row of RegistryValid and the program, by computation. -/
import Derived.Test.YtinffhpeahlhoaaGreatRows
import Derived.Test.YtinffhpeahlhoaaGreatChecked
import Derived.ProofKit
import Derived.OpenShut
import Derived.JoinedCond
namespace Go.Proofs.YtinffhpeahlhoaaGreat.registryValid
open Go.ChangeShapes Go.WideShapes Go.ChangeAt Go.RowKit

theorem joined : joinedFacts Tryz.pinned.checked.prog 3 Tryz.f3 (Rows.OpenSpec.upto Rows.registryValidSpec).bare Rows.registryValidUptoRow = true := by kernel_rfl
end Go.Proofs.YtinffhpeahlhoaaGreat.registryValid
