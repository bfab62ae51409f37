/- Whatever is done to any ring, each answer and all that it has is the document's, and a copy made in between stays: for all rings, operations and cuts. -/
import Derived.Test.YtgkdbhkbkpfbpaaPRingPlaysx1
import Derived.Test.YtgkdbhkbkpfbpaaTB
set_option linter.unusedVariables false
namespace Go.Proofs.Ytgkdbhkbkpfbpaa.Pure
open Go.RowKit Go.Proofs.Ytgkdbhkbkpfbpaa.PRingPlays
theorem RingPlays : halberdlaw13_RingPlays.Pure := fun _ _ _ _ _ _ => rfl
end Go.Proofs.Ytgkdbhkbkpfbpaa.Pure
