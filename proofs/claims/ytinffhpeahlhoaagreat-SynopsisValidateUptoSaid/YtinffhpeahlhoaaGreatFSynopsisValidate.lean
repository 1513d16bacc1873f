/- Facts about the row of SynopsisValidate and the program, by computation. -/
import Derived.Test.YtinffhpeahlhoaaGreatRows
import Derived.Test.YtinffhpeahlhoaaGreatChecked
import Derived.ProofKit
import Derived.OpenShut
import Derived.JoinedCond
namespace Go.Proofs.YtinffhpeahlhoaaGreat.synopsisValidate
open Go.ChangeShapes Go.WideShapes Go.ChangeAt Go.RowKit

theorem joined : joinedFacts Tryz.pinned.checked.prog 6 Tryz.f6 (Rows.OpenSpec.upto Rows.synopsisValidateSpec).bare Rows.synopsisValidateUptoRow = true := by kernel_rfl
end Go.Proofs.YtinffhpeahlhoaaGreat.synopsisValidate
