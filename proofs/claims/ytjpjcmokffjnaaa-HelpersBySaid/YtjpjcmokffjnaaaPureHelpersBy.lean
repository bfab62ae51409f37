/- The number of any name is the document's: for every name. -/
import Derived.Test.YtjpjcmokffjnaaaPHelpersByx1
import Derived.Test.YtjpjcmokffjnaaaTB
set_option linter.unusedVariables false
set_option linter.unusedSimpArgs false
namespace Go.Proofs.Ytjpjcmokffjnaaa.Pure
open Go.RowKit Go.Proofs.Ytjpjcmokffjnaaa.PHelpersBy Go.Proofs.YtjpjcmokffjnaaaW.PrintWords Go.Proofs.YtjpjcmokffjnaaaW.PrintLast Go.Proofs.YtjpjcmokffjnaaaW.PrintMore Go.Proofs.Ytjpjcmokffjnaaa.HB Go.Proofs.Ytjpjcmokffjnaaa.TB


theorem hb_alive : halberdlaw16_alive.f = some true := by kernel_rfl
def want : Nat → List UInt8 → Int
  | 0, _ => 0
  | n + 1, q => if (hName ((n : Int) + 1)).toList = q then (n : Int) + 1 else want n q
theorem row_name : ∀ n : Fin 13, (halberdref16_Row.f ((n.val : Int) + 1)).map (·.1.toList) = some (hName ((n.val : Int) + 1)).toList := by decide +kernel
theorem hb_from (a : ByteArray) : ∀ (d n k : Nat), n + d = 13 → d < k → halberdlaw16_HelpersBy.l0 k a (want n a.toList) ((n : Int) + 1) = (helpers_By.f a).bind fun t => some (t == want 13 a.toList)
  | 0, n, k, h, hk => by
    obtain ⟨m, rfl⟩ : ∃ m, k = m + 1 := ⟨k - 1, by omega⟩
    obtain rfl : n = 13 := by omega
    rw [halberdlaw16_HelpersBy.l0, if_neg (by omega)]
  | d + 1, n, k, h, hk => by
    obtain ⟨m, rfl⟩ : ∃ m, k = m + 1 := ⟨k - 1, by omega⟩
    have ih := hb_from a d (n + 1) m (by omega) (by omega)
    have hr := row_name ⟨n, by omega⟩
    obtain ⟨row, h1, h2⟩ := Option.map_eq_some_iff.1 hr
    simp only at h1 h2
    have hw : wrap64 ((n : Int) + 1 + 1) = ((n + 1 : Nat) : Int) + 1 := by unfold wrap64; omega
    rw [halberdlaw16_HelpersBy.l0, if_pos (by omega), h1, Option.bind_some, h2, hw, ← ih]
    by_cases c : (hName ((n : Int) + 1)).toList = a.toList
    · rw [if_pos c]
      simp only [want, c, if_true]
    · rw [if_neg c]
      simp only [want, c, if_false]
theorem hb_same (q : List UInt8) : hBy q = want 13 q := by
  by_cases h0 : (hName 1).toList = q
  · subst h0; decide +kernel
  by_cases h1 : (hName 2).toList = q
  · subst h1; decide +kernel
  by_cases h2 : (hName 3).toList = q
  · subst h2; decide +kernel
  by_cases h3 : (hName 4).toList = q
  · subst h3; decide +kernel
  by_cases h4 : (hName 5).toList = q
  · subst h4; decide +kernel
  by_cases h5 : (hName 6).toList = q
  · subst h5; decide +kernel
  by_cases h6 : (hName 7).toList = q
  · subst h6; decide +kernel
  by_cases h7 : (hName 8).toList = q
  · subst h7; decide +kernel
  by_cases h8 : (hName 9).toList = q
  · subst h8; decide +kernel
  by_cases h9 : (hName 10).toList = q
  · subst h9; decide +kernel
  by_cases h10 : (hName 11).toList = q
  · subst h10; decide +kernel
  by_cases h11 : (hName 12).toList = q
  · subst h11; decide +kernel
  by_cases h12 : (hName 13).toList = q
  · subst h12; decide +kernel
  have e : ∀ n : Nat, n < 13 → (hName ((n : Int) + 1)).toList ≠ q := by
    intro n hn
    match n, hn with
    | 0, _ => exact h0
    | 1, _ => exact h1
    | 2, _ => exact h2
    | 3, _ => exact h3
    | 4, _ => exact h4
    | 5, _ => exact h5
    | 6, _ => exact h6
    | 7, _ => exact h7
    | 8, _ => exact h8
    | 9, _ => exact h9
    | 10, _ => exact h10
    | 11, _ => exact h11
    | 12, _ => exact h12
  rw [hBy_none e]
  simp only [want]
  rw [if_neg (e 12 (by decide)), if_neg (e 11 (by decide)), if_neg (e 10 (by decide)), if_neg (e 9 (by decide)), if_neg (e 8 (by decide)), if_neg (e 7 (by decide)), if_neg (e 6 (by decide)), if_neg (e 5 (by decide)), if_neg (e 4 (by decide)), if_neg (e 3 (by decide)), if_neg (e 2 (by decide)), if_neg (e 1 (by decide)), if_neg (e 0 (by decide))]
theorem HelpersBy : halberdlaw16_HelpersBy.Pure := by
  intro a _
  refine ⟨40, ?_⟩
  unfold halberdlaw16_HelpersBy.f
  rw [hb_alive, Option.bind_some, if_pos rfl]
  have h := hb_from a 13 0 40 (by omega) (by omega)
  have h' : halberdlaw16_HelpersBy.l0 40 a 0 1 = _ := h
  rw [h']
  unfold helpers_By.f
  rw [Option.bind_some, hb_same, beq_self_eq_true]
end Go.Proofs.Ytjpjcmokffjnaaa.Pure
