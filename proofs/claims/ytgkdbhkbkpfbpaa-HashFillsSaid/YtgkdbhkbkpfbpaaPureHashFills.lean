/- As many unlike keys as there are slots are put, in slots from 0 on, and no more; each is found with its value: for all sizes of keys and numbers of slots. -/
import Derived.Test.YtgkdbhkbkpfbpaaPHashFillsx1
import Derived.Test.YtgkdbhkbkpfbpaaTB
set_option linter.unusedVariables false
namespace Go.Proofs.Ytgkdbhkbkpfbpaa.Pure
open Go.RowKit Go.Proofs.Ytgkdbhkbkpfbpaa.PHashFills
theorem HashFills : halberdlaw11_HashFills.Pure := by
  intro a0 a1 h0 h1
  have g0 : 0 ≤ a0 ∧ a0 < 256 := by have := bounds_u8 h0; omega
  have g1 : 0 ≤ a1 ∧ a1 < 256 := by have := bounds_u8 h1; omega
  unfold halberdlaw11_HashFills.f
  rw [if_pos ⟨g0.1, g0.2, g1.1, g1.2⟩]
end Go.Proofs.Ytgkdbhkbkpfbpaa.Pure
