/- The place of any field is the document's: for every type of an object and every name. -/
import Derived.Test.YteckjmejngieeaaPHooksFieldsx2
import Derived.Test.YteckjmejngieeaaTB
set_option linter.unusedVariables false
set_option linter.unusedSimpArgs false
namespace Go.Proofs.Yteckjmejngieeaa.Pure
open Go.RowKit Go.Proofs.Yteckjmejngieeaa.PHooksFields Go.Proofs.YteckjmejngieeaaW.PrintWords Go.Proofs.YteckjmejngieeaaW.PrintLast Go.Proofs.YteckjmejngieeaaW.PrintMore Go.Proofs.Yteckjmejngieeaa.HB Go.Proofs.Yteckjmejngieeaa.TB

theorem hf_loops (l : List ByteArray) (n : ByteArray) (hl : l.length ≤ 100) : ∀ (d k k' i : Nat), i + d = l.length → d < k → d < k' →
    (slices_Index_string_string.l0 k l n (l.length : Int) i = some (-1) ∧ ∀ x5 x6, halberdlaw15_HooksFields.l0 k' n x5 x6 l i = if x6 = true then some false else some (x5 == 0)) ∨
    (∃ j : Nat, j < l.length ∧ slices_Index_string_string.l0 k l n (l.length : Int) i = some (j : Int) ∧ ∀ x5 x6, halberdlaw15_HooksFields.l0 k' n x5 x6 l i = if x6 = true then some (x5 == wrap64 (8 * (j : Int))) else some false) := by
  intro d
  induction d with
  | zero =>
    intro k k' i hi hk hk'
    obtain ⟨k, rfl⟩ : ∃ m, k = m + 1 := ⟨k - 1, by omega⟩
    obtain ⟨k', rfl⟩ : ∃ m, k' = m + 1 := ⟨k' - 1, by omega⟩
    refine Or.inl ⟨by rw [slices_Index_string_string.l0, if_neg (by omega)], fun x5 x6 => by rw [halberdlaw15_HooksFields.l0, if_neg (by omega)]⟩
  | succ d ih =>
    intro k k' i hi hk hk'
    obtain ⟨k, rfl⟩ : ∃ m, k = m + 1 := ⟨k - 1, by omega⟩
    obtain ⟨k', rfl⟩ : ∃ m, k' = m + 1 := ⟨k' - 1, by omega⟩
    have e3 : wrap64 ((i : Int) + 1) = ((i + 1 : Nat) : Int) := by unfold wrap64; omega
    by_cases c : n.toList = (rdOf ByteArray.empty l (i : Int)).toList
    · refine Or.inr ⟨i, by omega, by rw [slices_Index_string_string.l0, if_pos (by omega), if_pos (by omega), if_pos (by omega), if_pos c], fun x5 x6 => by rw [halberdlaw15_HooksFields.l0, if_pos (by omega), if_pos (by omega), if_pos c.symm]⟩
    · have s1 : slices_Index_string_string.l0 (k + 1) l n (l.length : Int) i = slices_Index_string_string.l0 k l n (l.length : Int) ((i + 1 : Nat) : Int) := by
        rw [slices_Index_string_string.l0, if_pos (by omega), if_pos (by omega), if_pos (by omega), if_neg c, e3]
      have s2 : ∀ x5 x6, halberdlaw15_HooksFields.l0 (k' + 1) n x5 x6 l i = halberdlaw15_HooksFields.l0 k' n x5 x6 l ((i + 1 : Nat) : Int) := fun x5 x6 => by
        rw [halberdlaw15_HooksFields.l0, if_pos (by omega), if_pos (by omega), if_neg (fun e => c e.symm), e3]
      rcases ih k k' (i + 1) (by omega) (by omega) (by omega) with ⟨h1, h2⟩ | ⟨j, h1, h2, h3⟩
      · exact Or.inl ⟨s1.trans h1, fun x5 x6 => (s2 x5 x6).trans (h2 x5 x6)⟩
      · exact Or.inr ⟨j, h1, s1.trans h2, fun x5 x6 => (s2 x5 x6).trans (h3 x5 x6)⟩
theorem hf_same (a0 : Int) : ∃ l : List ByteArray, hooks_fields.f a0 = some l ∧ halberdref15_Fields.f a0 = some l ∧ l.length ≤ 8 := by
  unfold hooks_fields.f halberdref15_Fields.f
  by_cases h1 : a0 = 1
  · rw [if_pos h1]; exact ⟨_, rfl, rfl, by decide⟩
  rw [if_neg h1]
  by_cases h2 : a0 = 2
  · rw [if_pos h2]; exact ⟨_, rfl, rfl, by decide⟩
  rw [if_neg h2]
  exact ⟨_, rfl, rfl, by decide⟩
theorem HooksFields : halberdlaw15_HooksFields.Pure := by
  intro a0 n h0 h1
  refine ⟨200, ?_⟩
  unfold halberdlaw15_HooksFields.f
  refine ask_ rfl ?_
  obtain ⟨l, e1, e2, hl⟩ := hf_same a0
  unfold hooks_Field.f
  rw [e1, Option.bind_some]
  unfold slices_Index_string_string.f
  rcases hf_loops l n (by omega) l.length 200 200 0 (by omega) (by omega) (by omega) with ⟨q1, q2⟩ | ⟨j, q0, q1, q2⟩
  · rw [show ((0 : Nat) : Int) = 0 from rfl] at q1 q2
    rw [q1, Option.bind_some, if_pos (by decide), Option.bind_some, e2, Option.bind_some, q2]
    rfl
  · rw [show ((0 : Nat) : Int) = 0 from rfl] at q1 q2
    rw [q1, Option.bind_some, if_neg (by omega), Option.bind_some, e2, Option.bind_some, q2, if_pos rfl, beq_self_eq_true]

end Go.Proofs.Yteckjmejngieeaa.Pure
