/- As many objects get slots as there are, and dropping one makes room: for all numbers of slots and all drops. -/
import Derived.Test.YtgkdbhkbkpfbpaaPLocalFillsx1
import Derived.Test.YtgkdbhkbkpfbpaaTB
set_option linter.unusedVariables false
namespace Go.Proofs.Ytgkdbhkbkpfbpaa.Pure
open Go.RowKit Go.Proofs.Ytgkdbhkbkpfbpaa.PLocalFills
theorem LocalFills : halberdlaw12_LocalFills.Pure := by
  intro a0 a1 h0 h1
  have g0 : 0 ≤ a0 ∧ a0 < 256 := by have := bounds_u8 h0; omega
  have g1 : 0 ≤ a1 ∧ a1 < 256 := by have := bounds_u8 h1; omega
  unfold halberdlaw12_LocalFills.f
  rw [if_pos ⟨g0.1, g0.2, g1.1, g1.2⟩]
end Go.Proofs.Ytgkdbhkbkpfbpaa.Pure
