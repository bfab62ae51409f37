/- As many records of one size are held as there is room for, each more is a drop, and with all thrown away there is room again: for all rooms, sizes and drops. -/
import Derived.Test.YtgkdbhkbkpfbpaaPRingFillsx1
import Derived.Test.YtgkdbhkbkpfbpaaTB
set_option linter.unusedVariables false
namespace Go.Proofs.Ytgkdbhkbkpfbpaa.Pure
open Go.RowKit Go.Proofs.Ytgkdbhkbkpfbpaa.PRingFills
theorem RingFills : halberdlaw13_RingFills.Pure := by
  intro a0 a1 a2 h0 h1 h2
  have g0 : 0 ≤ a0 ∧ a0 < 256 := by have := bounds_u8 h0; omega
  have g1 : 0 ≤ a1 ∧ a1 < 256 := by have := bounds_u8 h1; omega
  have g2 : 0 ≤ a2 ∧ a2 < 256 := by have := bounds_u8 h2; omega
  unfold halberdlaw13_RingFills.f
  rw [if_pos ⟨g0.1, g0.2, g1.1, g1.2, g2.1, g2.2⟩]
end Go.Proofs.Ytgkdbhkbkpfbpaa.Pure
