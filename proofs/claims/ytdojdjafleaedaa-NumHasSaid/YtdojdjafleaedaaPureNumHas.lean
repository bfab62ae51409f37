/- Whether anything known has a number, and what is known of one, and of all, is the document's: for all that is known of numbers, and all numbers. -/
import Derived.Test.YtdojdjafleaedaaPNumHasx5
import Derived.Test.YtdojdjafleaedaaTB
import Derived.Lib.ItoaNum
set_option linter.unusedVariables false
set_option linter.unusedSimpArgs false
namespace Go.Proofs.Ytdojdjafleaedaa.Pure
open Go.RowKit Go.Proofs.Ytdojdjafleaedaa.PNumHas Go.Proofs.YtdojdjafleaedaaW.PrintWords Go.Proofs.YtdojdjafleaedaaW.PrintLast Go.Proofs.YtdojdjafleaedaaW.PrintMore Go.Proofs.Ytdojdjafleaedaa.HB Go.Proofs.Ytdojdjafleaedaa.TB

theorem t_right (v m : W) : tnum_right.f (U v) (U m) = some (U (lo v m), U m) := by
  unfold tnum_right.f lo
  rw [U_andNot]
theorem t_has (v m x : W) : tnum_Has.f (U v) (U m) (U x) = some (decide (Has v m x)) := by
  unfold tnum_Has.f
  rw [t_right]
  simp only [Option.bind_some, U_andNot]
  congr 1
  rw [Bool.eq_iff_iff]
  simp only [beq_iff_eq, U_inj, decide_eq_true_eq]
  rfl
theorem t_has_yes {v m x : W} (h : Has v m x) : tnum_Has.f (U v) (U m) (U x) = some true := by
  rw [t_has, decide_eq_true h]
/-! ### The document's way: bit by bit -/
/-- Bit number i of a whole number. -/
def ib (x : W) (i : Nat) : Bool := x.getLsbD i
theorem U_half (x : W) : IntKind.u64.wrap (Int.tdiv (U x) 2) = U (x >>> 1) := by
  rw [Int.tdiv_eq_ediv_of_nonneg (U_lo x), wrap_u64_id (by have := U_lo x; omega) (by have := U_hi x; omega)]
  have := U_shr x 1 (by decide) (by decide)
  unfold shr at this
  exact this
theorem U_odd (x : W) : Int.tmod (U x) 2 = if x.getLsbD 0 = true then 1 else 0 := by
  rw [Int.tmod_eq_emod_of_nonneg (U_lo x)]
  unfold U
  have e : x.getLsbD 0 = decide (x.toNat % 2 = 1) := by
    rw [← BitVec.testBit_toNat, Nat.testBit_zero]
  rw [e]
  by_cases h : x.toNat % 2 = 1
  · rw [if_pos (by simpa using h)]; omega
  · rw [if_neg (by simpa using h)]; omega
theorem bit_loop (v m : W) (i : Nat) (hi : i ≤ 64) : ∀ (d k j : Nat), j + d = i → d < k →
    halberdref06_Bit.l0 k i (U (m >>> j)) (U (v >>> j)) j = some (m.getLsbD i || !v.getLsbD i, m.getLsbD i || v.getLsbD i) := by
  intro d
  induction d with
  | zero =>
    intro k j hj hk
    obtain ⟨k, rfl⟩ : ∃ n, k = n + 1 := ⟨k - 1, by omega⟩
    obtain rfl : j = i := by omega
    simp only [halberdref06_Bit.l0]
    rw [if_neg (by omega), U_odd, U_odd, BitVec.getLsbD_ushiftRight, BitVec.getLsbD_ushiftRight, Nat.add_zero]
    cases hm : m.getLsbD j <;> cases hv : v.getLsbD j <;> simp
  | succ d ih =>
    intro k j hj hk
    obtain ⟨k, rfl⟩ : ∃ n, k = n + 1 := ⟨k - 1, by omega⟩
    simp only [halberdref06_Bit.l0]
    have e3 : wrap64 ((j : Int) + 1) = ((j + 1 : Nat) : Int) := by unfold wrap64; omega
    rw [if_pos (by omega), U_half, U_half, e3, ← BitVec.shiftRight_add, ← BitVec.shiftRight_add]
    exact ih k (j + 1) (by omega) (by omega)
theorem bit_val (v m : W) (i k : Nat) (hi : i ≤ 64) (hk : i < k) : halberdref06_Bit.f k (U v) (U m) i = some (m.getLsbD i || !v.getLsbD i, m.getLsbD i || v.getLsbD i) := by
  unfold halberdref06_Bit.f
  have := bit_loop v m i hi i k 0 (by omega) hk
  simpa using this
theorem rhas_loop (v m x : W) : ∀ (d k j : Nat), j + d = 64 → d + 65 < k →
    ∃ r, halberdref06_Has.l0 k (U (x >>> j)) j (U v) (U m) = some r ∧ (r = true ↔ ∀ i, i < 64 → j ≤ i → (x.getLsbD i && !m.getLsbD i) = (v.getLsbD i && !m.getLsbD i)) := by
  intro d
  induction d with
  | zero =>
    intro k j hj hk
    obtain ⟨k, rfl⟩ : ∃ n, k = n + 1 := ⟨k - 1, by omega⟩
    refine ⟨true, ?_, by simp; intro i h1 h2; omega⟩
    simp only [halberdref06_Has.l0]
    rw [if_neg (by omega)]
  | succ d ih =>
    intro k j hj hk
    obtain ⟨k, rfl⟩ : ∃ n, k = n + 1 := ⟨k - 1, by omega⟩
    obtain ⟨r, hr, hiff⟩ := ih k (j + 1) (by omega) (by omega)
    simp only [halberdref06_Has.l0]
    have e3 : wrap64 ((j : Int) + 1) = ((j + 1 : Nat) : Int) := by unfold wrap64; omega
    rw [if_pos (by omega), bit_val v m j k (by omega) (by omega), U_half, e3, ← BitVec.shiftRight_add, hr, U_odd, BitVec.getLsbD_ushiftRight, Nat.add_zero]
    simp only [Option.bind_some]
    by_cases hb : (x.getLsbD j && !m.getLsbD j) = (v.getLsbD j && !m.getLsbD j)
    · refine ⟨r, ?_, ?_⟩
      · clear hiff hr ih
        revert hb
        cases x.getLsbD j <;> cases m.getLsbD j <;> cases v.getLsbD j <;> simp
      · rw [hiff]
        constructor
        · intro h i h1 h2
          by_cases hij : i = j
          · subst hij; exact hb
          · exact h i h1 (by omega)
        · intro h i h1 h2
          exact h i h1 (by omega)
    · refine ⟨false, ?_, ?_⟩
      · clear hiff hr ih
        revert hb
        cases x.getLsbD j <;> cases m.getLsbD j <;> cases v.getLsbD j <;> simp
      · constructor
        · intro h; exact absurd h (by simp)
        · intro h; exact absurd (h j (by omega) (Nat.le_refl j)) hb
theorem rhas_val (v m x : W) (k : Nat) (hk : 129 < k) : halberdref06_Has.f k (U v) (U m) (U x) = some (decide (Has v m x)) := by
  unfold halberdref06_Has.f
  obtain ⟨r, hr, hiff⟩ := rhas_loop v m x 64 k 0 (by omega) (by omega)
  have e0 : x >>> 0 = x := by simp
  rw [e0, show ((0 : Nat) : Int) = 0 from rfl] at hr
  rw [hr]
  congr 1
  rw [Bool.eq_iff_iff, hiff, decide_eq_true_eq]
  constructor
  · intro h; exact has_of fun i hi => h i hi (Nat.zero_le i)
  · intro h i hi _; exact has_bit h hi
theorem rhas07 (v m x : W) (a2 a3 a4 a5 : Int) (k : Nat) (hk : 129 < k) : halberdref07_Has.f k (U v) (U m) a2 a3 a4 a5 (U x) = some (decide (Has v m x ∧ a2 ≤ U x ∧ U x ≤ a3 ∧ a4 ≤ wrap64 (U x) ∧ wrap64 (U x) ≤ a5)) := by
  unfold halberdref07_Has.f
  refine have_ (rhas_val v m x k hk) ?_
  by_cases h0 : Has v m x <;> by_cases h1 : a2 ≤ U x <;> by_cases h2 : U x ≤ a3 <;> by_cases h3 : a4 ≤ wrap64 (U x) <;> simp [h0, h1, h2, h3]
theorem has07 (v m x : W) (a2 a3 a4 a5 : Int) : num_Has.f (U v) (U m) a2 a3 a4 a5 (U x) = some (decide (Has v m x ∧ a2 ≤ U x ∧ U x ≤ a3 ∧ a4 ≤ wrap64 (U x) ∧ wrap64 (U x) ≤ a5)) := by
  unfold num_Has.f
  refine have_ (t_has v m x) ?_
  by_cases h0 : Has v m x <;> by_cases h1 : a2 ≤ U x <;> by_cases h2 : U x ≤ a3 <;> by_cases h3 : a4 ≤ wrap64 (U x) <;> simp [h0, h1, h2, h3]
theorem num_alive : halberdlaw07_alive.f 200 = some true := by kernel_rfl
theorem numHas_rest (v m x : W) (a2 a3 a4 a5 : Int) : halberdlaw07_NumHas.j0 200 (U x) false (U v) (U m) a2 a3 a4 a5 = some true := by
  rw [halberdlaw07_NumHas.j0]
  refine no_ (by decide) ?_
  refine have_ (has07 v m x a2 a3 a4 a5) ?_
  refine have_ (rhas07 v m x a2 a3 a4 a5 199 (by omega)) ?_
  refine yes_ (by simp) ?_
  refine have_ (show num_Const.f (U x) = some (U x, 0, U x, U x, wrap64 (U x), wrap64 (U x)) from rfl) ?_
  refine have_ (show halberdref07_Const.f (U x) = some (U x, 0, U x, U x, wrap64 (U x), wrap64 (U x)) from rfl) ?_
  refine yes_ (by simp) ?_
  refine have_ (show num_All.f = some (0, 18446744073709551615, 0, 18446744073709551615, (-9223372036854775808), 9223372036854775807) from rfl) ?_
  refine have_ (show halberdref07_All.f = some (0, 18446744073709551615, 0, 18446744073709551615, (-9223372036854775808), 9223372036854775807) from rfl) ?_
  rfl
theorem NumHas : halberdlaw07_NumHas.Pure := by
  intro v m a2 a3 a4 a5 x h1 h2
  obtain ⟨v, rfl⟩ := U_wf h1.1.1
  obtain ⟨m, rfl⟩ := U_wf h1.1.2
  obtain ⟨x, rfl⟩ := U_wf h2
  refine ⟨200, ?_⟩
  unfold halberdlaw07_NumHas.f
  refine ask_ num_alive ?_
  by_cases hm : U m = 0
  · refine have_ (show num_IsConst.f (U v) (U m) a2 a3 a4 a5 = some (U v, true) from by unfold num_IsConst.f; rw [if_pos hm]) ?_
    refine no_ (by simp [hm]) ?_
    refine yes_ rfl ?_
    refine yes_ rfl ?_
    exact numHas_rest v m x a2 a3 a4 a5
  · refine have_ (show num_IsConst.f (U v) (U m) a2 a3 a4 a5 = some (0, false) from by unfold num_IsConst.f; rw [if_neg hm]) ?_
    refine no_ (by simp [hm]) ?_
    refine no_ (by decide) ?_
    exact numHas_rest v m x a2 a3 a4 a5

end Go.Proofs.Ytdojdjafleaedaa.Pure
