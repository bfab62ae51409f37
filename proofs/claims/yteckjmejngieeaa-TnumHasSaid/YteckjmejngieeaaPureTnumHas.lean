/- Whether any pattern may be, and has a number, and the patterns of one, of all, and of a range, are the document's: for all patterns and numbers. -/
import Derived.Test.YteckjmejngieeaaPTnumHasx4
import Derived.Test.YteckjmejngieeaaTB
import Derived.Lib.ItoaNum
set_option linter.unusedVariables false
set_option linter.unusedSimpArgs false
namespace Go.Proofs.Yteckjmejngieeaa.Pure
open Go.RowKit Go.Proofs.Yteckjmejngieeaa.PTnumHas Go.Proofs.YteckjmejngieeaaW.PrintWords Go.Proofs.YteckjmejngieeaaW.PrintLast Go.Proofs.YteckjmejngieeaaW.PrintMore Go.Proofs.Yteckjmejngieeaa.HB Go.Proofs.Yteckjmejngieeaa.TB

theorem t_alive : halberdlaw06_alive.f = some true := by decide +kernel
theorem t_right (v m : W) : tnum_right.f (U v) (U m) = some (U (lo v m), U m) := by
  unfold tnum_right.f lo
  rw [U_andNot]
theorem t_has (v m x : W) : tnum_Has.f (U v) (U m) (U x) = some (decide (Has v m x)) := by
  unfold tnum_Has.f
  rw [t_right]
  simp only [Option.bind_some, U_andNot]
  congr 1
  rw [Bool.eq_iff_iff]
  simp only [beq_iff_eq, U_inj, decide_eq_true_eq]
  rfl
theorem t_has_yes {v m x : W} (h : Has v m x) : tnum_Has.f (U v) (U m) (U x) = some true := by
  rw [t_has, decide_eq_true h]
/-! ### The document's way: bit by bit -/
/-- Bit number i of a whole number. -/
def ib (x : W) (i : Nat) : Bool := x.getLsbD i
theorem U_half (x : W) : IntKind.u64.wrap (Int.tdiv (U x) 2) = U (x >>> 1) := by
  rw [Int.tdiv_eq_ediv_of_nonneg (U_lo x), wrap_u64_id (by have := U_lo x; omega) (by have := U_hi x; omega)]
  have := U_shr x 1 (by decide) (by decide)
  unfold shr at this
  exact this
theorem U_odd (x : W) : Int.tmod (U x) 2 = if x.getLsbD 0 = true then 1 else 0 := by
  rw [Int.tmod_eq_emod_of_nonneg (U_lo x)]
  unfold U
  have e : x.getLsbD 0 = decide (x.toNat % 2 = 1) := by
    rw [← BitVec.testBit_toNat, Nat.testBit_zero]
  rw [e]
  by_cases h : x.toNat % 2 = 1
  · rw [if_pos (by simpa using h)]; omega
  · rw [if_neg (by simpa using h)]; omega
theorem bit_loop (v m : W) (i : Nat) (hi : i ≤ 64) : ∀ (d k j : Nat), j + d = i → d < k →
    halberdref06_Bit.l0 k i (U (m >>> j)) (U (v >>> j)) j = some (m.getLsbD i || !v.getLsbD i, m.getLsbD i || v.getLsbD i) := by
  intro d
  induction d with
  | zero =>
    intro k j hj hk
    obtain ⟨k, rfl⟩ : ∃ n, k = n + 1 := ⟨k - 1, by omega⟩
    obtain rfl : j = i := by omega
    simp only [halberdref06_Bit.l0]
    rw [if_neg (by omega), U_odd, U_odd, BitVec.getLsbD_ushiftRight, BitVec.getLsbD_ushiftRight, Nat.add_zero]
    cases hm : m.getLsbD j <;> cases hv : v.getLsbD j <;> simp
  | succ d ih =>
    intro k j hj hk
    obtain ⟨k, rfl⟩ : ∃ n, k = n + 1 := ⟨k - 1, by omega⟩
    simp only [halberdref06_Bit.l0]
    have e3 : wrap64 ((j : Int) + 1) = ((j + 1 : Nat) : Int) := by unfold wrap64; omega
    rw [if_pos (by omega), U_half, U_half, e3, ← BitVec.shiftRight_add, ← BitVec.shiftRight_add]
    exact ih k (j + 1) (by omega) (by omega)
theorem bit_val (v m : W) (i k : Nat) (hi : i ≤ 64) (hk : i < k) : halberdref06_Bit.f k (U v) (U m) i = some (m.getLsbD i || !v.getLsbD i, m.getLsbD i || v.getLsbD i) := by
  unfold halberdref06_Bit.f
  have := bit_loop v m i hi i k 0 (by omega) hk
  simpa using this
theorem rhas_loop (v m x : W) : ∀ (d k j : Nat), j + d = 64 → d + 65 < k →
    ∃ r, halberdref06_Has.l0 k (U (x >>> j)) j (U v) (U m) = some r ∧ (r = true ↔ ∀ i, i < 64 → j ≤ i → (x.getLsbD i && !m.getLsbD i) = (v.getLsbD i && !m.getLsbD i)) := by
  intro d
  induction d with
  | zero =>
    intro k j hj hk
    obtain ⟨k, rfl⟩ : ∃ n, k = n + 1 := ⟨k - 1, by omega⟩
    refine ⟨true, ?_, by simp; intro i h1 h2; omega⟩
    simp only [halberdref06_Has.l0]
    rw [if_neg (by omega)]
  | succ d ih =>
    intro k j hj hk
    obtain ⟨k, rfl⟩ : ∃ n, k = n + 1 := ⟨k - 1, by omega⟩
    obtain ⟨r, hr, hiff⟩ := ih k (j + 1) (by omega) (by omega)
    simp only [halberdref06_Has.l0]
    have e3 : wrap64 ((j : Int) + 1) = ((j + 1 : Nat) : Int) := by unfold wrap64; omega
    rw [if_pos (by omega), bit_val v m j k (by omega) (by omega), U_half, e3, ← BitVec.shiftRight_add, hr, U_odd, BitVec.getLsbD_ushiftRight, Nat.add_zero]
    simp only [Option.bind_some]
    by_cases hb : (x.getLsbD j && !m.getLsbD j) = (v.getLsbD j && !m.getLsbD j)
    · refine ⟨r, ?_, ?_⟩
      · clear hiff hr ih
        revert hb
        cases x.getLsbD j <;> cases m.getLsbD j <;> cases v.getLsbD j <;> simp
      · rw [hiff]
        constructor
        · intro h i h1 h2
          by_cases hij : i = j
          · subst hij; exact hb
          · exact h i h1 (by omega)
        · intro h i h1 h2
          exact h i h1 (by omega)
    · refine ⟨false, ?_, ?_⟩
      · clear hiff hr ih
        revert hb
        cases x.getLsbD j <;> cases m.getLsbD j <;> cases v.getLsbD j <;> simp
      · constructor
        · intro h; exact absurd h (by simp)
        · intro h; exact absurd (h j (by omega) (Nat.le_refl j)) hb
theorem rhas_val (v m x : W) (k : Nat) (hk : 129 < k) : halberdref06_Has.f k (U v) (U m) (U x) = some (decide (Has v m x)) := by
  unfold halberdref06_Has.f
  obtain ⟨r, hr, hiff⟩ := rhas_loop v m x 64 k 0 (by omega) (by omega)
  have e0 : x >>> 0 = x := by simp
  rw [e0, show ((0 : Nat) : Int) = 0 from rfl] at hr
  rw [hr]
  congr 1
  rw [Bool.eq_iff_iff, hiff, decide_eq_true_eq]
  constructor
  · intro h; exact has_of fun i hi => h i hi (Nat.zero_le i)
  · intro h i hi _; exact has_bit h hi
/-! ### Ranges -/
/-- The n lowest bits. -/
def lowW (n : Nat) : W := BitVec.ofNat 64 (2 ^ n - 1)
theorem lowW_bit (n i : Nat) (hi : i < 64) : (lowW n).getLsbD i = decide (i < n) := by
  unfold lowW
  rw [BitVec.getLsbD_ofNat, Nat.testBit_two_pow_sub_one]
  simp [hi]
theorem low_val (n : Nat) (hn : n ≤ 64) : words_Low.f n = some (U (lowW n)) := by
  have key : ∀ n : Fin 65, words_Low.f (n.val : Int) = some (U (lowW n.val)) := by decide +kernel
  exact key ⟨n, by omega⟩
theorem bitLen_facts (d : Nat) (h : d < 2 ^ 64) : d < 2 ^ Lib.bitLen d ∧ (∀ j, j < Lib.bitLen d → 2 ^ j ≤ d) ∧ Lib.bitLen d ≤ 64 := by
  by_cases h0 : d = 0
  · subst h0
    have e : Lib.bitLen 0 = 0 := rfl
    rw [e]
    exact ⟨by decide, fun j hj => by omega, by omega⟩
  · obtain ⟨a, b, c⟩ := Lib.bitLenAux_bounds 64 d h h0
    refine ⟨c, fun j hj => ?_, ?_⟩
    · have hj' : j < Lib.bitLenAux 64 d := hj
      exact Nat.le_trans (Nat.pow_le_pow_right (by decide) (by omega)) b
    · have : Lib.bitLenAux 64 d - 1 < 64 := by
        rcases Nat.lt_or_ge (Lib.bitLenAux 64 d - 1) 64 with h1 | h1
        · exact h1
        · have := Nat.pow_le_pow_right (show 0 < 2 by decide) h1
          omega
      show Lib.bitLenAux 64 d ≤ 64
      omega
theorem shr_same (a b : W) (j : Nat) : (a >>> j = b >>> j) ↔ (a ^^^ b).toNat < 2 ^ j := by
  constructor
  · intro h
    have e : (a ^^^ b) >>> j = 0#64 := by
      apply BitVec.eq_of_getLsbD_eq
      intro i hi
      have := congrArg (fun x => BitVec.getLsbD x i) h
      simp only [BitVec.getLsbD_ushiftRight] at this
      rw [BitVec.getLsbD_ushiftRight, BitVec.getLsbD_xor, this]
      simp
    have e2 := congrArg BitVec.toNat e
    rw [BitVec.toNat_ushiftRight, Nat.shiftRight_eq_div_pow] at e2
    have e3 : (a ^^^ b).toNat / 2 ^ j = 0 := by simpa using e2
    exact (Nat.div_eq_zero_iff_lt (Nat.two_pow_pos j)).1 e3
  · intro h
    apply BitVec.eq_of_getLsbD_eq
    intro i hi
    rw [BitVec.getLsbD_ushiftRight, BitVec.getLsbD_ushiftRight]
    have e : (a ^^^ b).getLsbD (j + i) = false := by
      rw [← BitVec.testBit_toNat]
      exact Nat.testBit_lt_two_pow (Nat.lt_of_lt_of_le h (Nat.pow_le_pow_right (by decide) (by omega)))
    rw [BitVec.getLsbD_xor] at e
    revert e
    cases a.getLsbD (j + i) <;> cases b.getLsbD (j + i) <;> simp
theorem U_pow (j : Nat) (hj : j < 64) : ((2 : Int) ^ j) = U (1#64 <<< j) := by
  unfold U
  rw [BitVec.toNat_shiftLeft, Nat.shiftLeft_eq]
  have : 2 ^ j < 2 ^ 64 := Nat.pow_lt_pow_right (by decide) hj
  have e : (1#64).toNat * 2 ^ j % 2 ^ 64 = 2 ^ j := by
    show 1 * 2 ^ j % 2 ^ 64 = 2 ^ j
    rw [Nat.one_mul, Nat.mod_eq_of_lt this]
  rw [e]
  simp
theorem U_quot (x : W) (j : Nat) (hj : j < 64) : IntKind.u64.wrap (Int.tdiv (U x) (2 ^ j)) = U (x >>> j) := by
  rw [Int.tdiv_eq_ediv_of_nonneg (U_lo x)]
  have h := U_shr x j (by omega) (by omega)
  unfold shr at h
  have e : min (j : Int).toNat IntKind.u64.bits = j := by
    have : IntKind.u64.bits = 64 := rfl
    rw [this]; omega
  rw [e, Int.toNat_natCast] at h
  rw [h, U_wrap]
theorem U_back (x : W) (j : Nat) (hj : j < 64) : IntKind.u64.wrap (U (x >>> j) * 2 ^ j) = U (x &&& ~~~lowW j) := by
  have h := U_shl (x >>> j) j (by omega) (by omega)
  unfold shl at h
  have e : min (j : Int).toNat IntKind.u64.bits = j := by
    have : IntKind.u64.bits = 64 := rfl
    rw [this]; omega
  rw [e, Int.toNat_natCast] at h
  rw [h, U_inj]
  apply BitVec.eq_of_getLsbD_eq
  intro i hi
  rw [BitVec.getLsbD_shiftLeft, BitVec.getLsbD_ushiftRight, BitVec.getLsbD_and, BitVec.getLsbD_not, lowW_bit _ _ hi]
  by_cases hij : i < j
  · simp [hij]
  · simp [hij, hi, show j + (i - j) = i by omega]
theorem lowW_val (j : Nat) (hj : j ≤ 64) : U (lowW j) = 2 ^ j - 1 := by
  unfold U lowW
  rw [BitVec.toNat_ofNat]
  have h1 : 2 ^ j ≤ 2 ^ 64 := Nat.pow_le_pow_right (by decide) hj
  have h2 := Nat.two_pow_pos j
  rw [Nat.mod_eq_of_lt (by omega)]
  have : ((2 ^ j : Nat) : Int) = (2 : Int) ^ j := by simp
  omega
theorem rrange_loop (a b : W) : ∀ (r k j : Nat), j ≤ 63 → j ≤ Lib.bitLen (a ^^^ b).toNat → r = 64 - j → r < k →
    halberdref06_Range.l0 k (U a) (U b) (2 ^ j) (U (lowW j)) = some (U (a &&& ~~~lowW (Lib.bitLen (a ^^^ b).toNat)), U (lowW (Lib.bitLen (a ^^^ b).toNat))) := by
  have hf := bitLen_facts (a ^^^ b).toNat (a ^^^ b).isLt
  generalize Lib.bitLen (a ^^^ b).toNat = n at hf ⊢
  intro r
  induction r with
  | zero => intro k j h1 h2 h3 h4; omega
  | succ r ih =>
    intro k j h1 h2 h3 h4
    obtain ⟨k, rfl⟩ : ∃ n, k = n + 1 := ⟨k - 1, by omega⟩
    simp only [halberdref06_Range.l0]
    have hp : (0 : Int) < 2 ^ j := Int.pow_pos (by decide)
    rw [if_neg (by omega), U_quot a j (by omega), U_quot b j (by omega)]
    by_cases hjn : j = n
    · subst hjn
      rw [if_pos (by rw [U_inj]; exact (shr_same a b j).2 hf.1), U_back a j (by omega)]
    · have hne : ¬ (U (a >>> j) = U (b >>> j)) := by
        rw [U_inj, shr_same]
        have := hf.2.1 j (by omega)
        omega
      rw [if_neg hne]
      by_cases h63 : j = 63
      · subst h63
        have hn : n = 64 := by have := hf.2.2; omega
        subst hn
        rw [if_pos (by decide)]
        have e1 : (0 : Int) = U (a &&& ~~~lowW 64) := by
          rw [U_zero, U_inj]
          apply BitVec.eq_of_getLsbD_eq
          intro i hi
          rw [BitVec.getLsbD_and, BitVec.getLsbD_not, lowW_bit _ _ hi]
          simp [hi]
        have e2 : IntKind.u64.wrap (U (lowW 63) + 2 ^ 63) = U (lowW 64) := by decide
        rw [e2, ← e1]
      · have hpl : (2 : Int) ^ j ≠ 9223372036854775808 := by
          intro h
          have h' : (2 : Int) ^ j = 2 ^ 63 := h
          have h1 : (2 : Nat) ^ j = 2 ^ 63 := by exact_mod_cast h'
          have h2 : (2 : Nat) ^ j < 2 ^ 63 := Nat.pow_lt_pow_right (by decide) (by omega)
          omega
        rw [if_neg hpl]
        have e1 : IntKind.u64.wrap (2 * 2 ^ j) = 2 ^ (j + 1) := by
          rw [Int.mul_comm, ← Int.pow_succ]
          have h64 : (2 : Int) ^ (j + 1) ≤ 2 ^ 63 := by
            have : (2 : Nat) ^ (j + 1) ≤ 2 ^ 63 := Nat.pow_le_pow_right (by decide) (by omega)
            exact_mod_cast this
          exact wrap_u64_id (by have : (0 : Int) < 2 ^ (j + 1) := Int.pow_pos (by decide); omega) (by omega)
        have e2 : IntKind.u64.wrap (U (lowW j) + 2 ^ j) = U (lowW (j + 1)) := by
          rw [lowW_val j (by omega), lowW_val (j + 1) (by omega), Int.pow_succ]
          have h64 : (2 : Int) ^ j ≤ 2 ^ 62 := by
            have : (2 : Nat) ^ j ≤ 2 ^ 62 := Nat.pow_le_pow_right (by decide) (by omega)
            exact_mod_cast this
          rw [show (2 : Int) ^ j - 1 + 2 ^ j = 2 ^ j * 2 - 1 by omega]
          exact wrap_u64_id (by omega) (by omega)
        rw [e1, e2]
        exact ih k (j + 1) (by omega) (by omega) (by omega) (by omega)
/-- A range's pattern, both ways. -/
def rangeV (a b : W) : W := if b < a then 0#64 else a &&& ~~~lowW (Lib.bitLen (a ^^^ b).toNat)
def rangeM (a b : W) : W := if b < a then BitVec.allOnes 64 else lowW (Lib.bitLen (a ^^^ b).toNat)
theorem range_ref (a b : W) (k : Nat) (hk : 64 < k) : halberdref06_Range.f k (U a) (U b) = some (U (rangeV a b), U (rangeM a b)) := by
  unfold halberdref06_Range.f rangeV rangeM
  by_cases h : b < a
  · rw [if_pos (U_lt.2 h), if_pos h, if_pos h]; rfl
  · rw [if_neg (by rw [U_lt]; exact h), if_neg h, if_neg h]
    have := rrange_loop a b 64 k 0 (by omega) (by omega) rfl hk
    exact this
theorem range_prog (a b : W) : tnum_Range.f (U a) (U b) = some (U (rangeV a b), U (rangeM a b)) := by
  unfold tnum_Range.f rangeV rangeM
  by_cases h : b < a
  · rw [if_pos (U_lt.2 h), if_pos h, if_pos h]; rfl
  · rw [if_neg (by rw [U_lt]; exact h), if_neg h, if_neg h, U_xor]
    have hl := bitLen_facts (a ^^^ b).toNat (a ^^^ b).isLt
    have e : bits_Len64.f (U (a ^^^ b)) = some ((Lib.bitLen (a ^^^ b).toNat : Nat) : Int) := by
      unfold bits_Len64.f
      rw [if_pos ⟨U_lo _, by have := U_hi (a ^^^ b); omega⟩]
      rfl
    rw [e]
    simp only [Option.bind_some]
    rw [low_val _ hl.2.2]
    simp only [Option.bind_some, t_right]
    rfl
theorem TnumHas : halberdlaw06_TnumHas.Pure := by
  intro v m x y h1 h2 h3
  obtain ⟨v, rfl⟩ := U_wf h1.1
  obtain ⟨m, rfl⟩ := U_wf h1.2
  obtain ⟨x, rfl⟩ := U_wf h2
  obtain ⟨y, rfl⟩ := U_wf h3
  refine ⟨200, ?_⟩
  unfold halberdlaw06_TnumHas.f
  refine ask_ t_alive ?_
  refine have_ (show tnum_May.f (U v) (U m) = some (Go.bits .and .u64 (U v) (U m) == 0) from rfl) ?_
  refine yes_ (by simp) ?_
  refine have_ (t_has v m x) ?_
  refine have_ (rhas_val v m x 200 (by omega)) ?_
  refine yes_ (by simp) ?_
  refine have_ (show tnum_Const.f (U x) = some (U x, 0) from rfl) ?_
  refine yes_ (by simp) ?_
  refine have_ (show tnum_All.f = some (0, 18446744073709551615) from rfl) ?_
  refine yes_ (by simp) ?_
  refine have_ (range_prog x y) ?_
  refine have_ (range_ref x y 200 (by omega)) ?_
  simp

end Go.Proofs.Yteckjmejngieeaa.Pure
