/- Whatever is done to any storage, each answer and all that it has is the document's, and a copy made in between stays: for all storages, operations and cuts. -/
import Derived.Test.YtgkdbhkbkpfbpaaPLocalPlaysx1
import Derived.Test.YtgkdbhkbkpfbpaaTB
set_option linter.unusedVariables false
namespace Go.Proofs.Ytgkdbhkbkpfbpaa.Pure
open Go.RowKit Go.Proofs.Ytgkdbhkbkpfbpaa.PLocalPlays
theorem LocalPlays : halberdlaw12_LocalPlays.Pure := fun _ _ _ _ _ _ _ _ => rfl
end Go.Proofs.Ytgkdbhkbkpfbpaa.Pure
