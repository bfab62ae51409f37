/- What is written to a record's bytes behind its being told turns nothing, and it is drained as it was told: for all bytes. -/
import Derived.Test.YtgkdbhkbkpfbpaaPRingToldx1
import Derived.Test.YtgkdbhkbkpfbpaaTB
set_option linter.unusedVariables false
namespace Go.Proofs.Ytgkdbhkbkpfbpaa.Pure
open Go.RowKit Go.Proofs.Ytgkdbhkbkpfbpaa.PRingTold
theorem RingTold : halberdlaw13_RingTold.Pure := fun _ _ _ _ => rfl
end Go.Proofs.Ytgkdbhkbkpfbpaa.Pure
