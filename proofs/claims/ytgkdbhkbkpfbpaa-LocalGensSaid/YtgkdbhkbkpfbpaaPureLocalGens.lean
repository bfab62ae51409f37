/- What is written beside an object is there for it alone: for all keys and bytes. -/
import Derived.Test.YtgkdbhkbkpfbpaaPLocalGensx1
import Derived.Test.YtgkdbhkbkpfbpaaTB
set_option linter.unusedVariables false
namespace Go.Proofs.Ytgkdbhkbkpfbpaa.Pure
open Go.RowKit Go.Proofs.Ytgkdbhkbkpfbpaa.PLocalGens
theorem LocalGens : halberdlaw12_LocalGens.Pure := fun _ _ _ _ _ _ _ _ => rfl
end Go.Proofs.Ytgkdbhkbkpfbpaa.Pure
