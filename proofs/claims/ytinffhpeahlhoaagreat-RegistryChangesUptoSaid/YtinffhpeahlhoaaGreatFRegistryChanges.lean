/- Facts about the row of RegistryChanges and the program, by computation. -/
import Derived.Test.YtinffhpeahlhoaaGreatRows
import Derived.Test.YtinffhpeahlhoaaGreatChecked
import Derived.ProofKit
import Derived.OpenShut
import Derived.JoinedCond
namespace Go.Proofs.YtinffhpeahlhoaaGreat.registryChanges
open Go.ChangeShapes Go.WideShapes Go.ChangeAt Go.RowKit

theorem joined : joinedFacts Tryz.pinned.checked.prog 4 Tryz.f4 (Rows.OpenSpec.upto Rows.registryChangesSpec).bare Rows.registryChangesUptoRow = true := by kernel_rfl
end Go.Proofs.YtinffhpeahlhoaaGreat.registryChanges
