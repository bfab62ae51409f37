/- Whatever is written to slots of any array, its bytes are the document's, and a copy made in between stays: for all arrays, writes and cuts. -/
import Derived.Test.YtgkdbhkbkpfbpaaPArrayPlaysx1
import Derived.Test.YtgkdbhkbkpfbpaaTB
set_option linter.unusedVariables false
namespace Go.Proofs.Ytgkdbhkbkpfbpaa.Pure
open Go.RowKit Go.Proofs.Ytgkdbhkbkpfbpaa.PArrayPlays
theorem ArrayPlays : halberdlaw10_ArrayPlays.Pure := fun _ _ _ _ _ _ _ _ => rfl
end Go.Proofs.Ytgkdbhkbkpfbpaa.Pure
