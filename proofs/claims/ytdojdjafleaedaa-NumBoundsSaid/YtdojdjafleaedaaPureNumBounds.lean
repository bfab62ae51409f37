/- What is known of any bounds, without a sign and with one, is the document's. -/
import Derived.Test.YtdojdjafleaedaaPNumBoundsx7
import Derived.Test.YtdojdjafleaedaaVTB
import Derived.Lib.ItoaNum
set_option linter.unusedVariables false
set_option linter.unusedSimpArgs false
namespace Go.Proofs.Ytdojdjafleaedaa.Pure
open Go.RowKit Go.Proofs.Ytdojdjafleaedaa.PNumBounds Go.Proofs.YtdojdjafleaedaaW.PrintWords Go.Proofs.YtdojdjafleaedaaW.PrintLast Go.Proofs.YtdojdjafleaedaaW.PrintMore Go.Proofs.Ytdojdjafleaedaa.HB Go.Proofs.Ytdojdjafleaedaa.TB

theorem t_right (v m : W) : tnum_right.f (U v) (U m) = some (U (lo v m), U m) := by
  unfold tnum_right.f lo
  rw [U_andNot]
/-! ### What is known of a number: which numbers it has -/
def NH (v m : W) (a2 a3 a4 a5 : Int) (x : W) : Prop := Has v m x ∧ a2 ≤ U x ∧ U x ≤ a3 ∧ a4 ≤ wrap64 (U x) ∧ wrap64 (U x) ≤ a5
instance (v m : W) (a2 a3 a4 a5 : Int) (x : W) : Decidable (NH v m a2 a3 a4 a5 x) := inferInstanceAs (Decidable (_ ∧ _))
/-- The bounds are numbers of their kinds. -/
def RG (a2 a3 a4 a5 : Int) : Prop := 0 ≤ a2 ∧ a2 < 18446744073709551616 ∧ 0 ≤ a3 ∧ a3 < 18446744073709551616 ∧ -9223372036854775808 ≤ a4 ∧ a4 < 9223372036854775808 ∧ -9223372036854775808 ≤ a5 ∧ a5 < 9223372036854775808
def topW : W := 9223372036854775808#64
theorem topW_U : (9223372036854775808 : Int) = U topW := rfl
theorem topW_bit (i : Nat) (hi : i < 64) : topW.getLsbD i = decide (i = 63) := by
  have key : ∀ i : Fin 64, topW.getLsbD i.val = decide (i.val = 63) := by decide
  exact key ⟨i, hi⟩
theorem In.leU {a b : W} (h : In a b) : U a ≤ U b := by
  have := h.mod_le 64
  rw [Nat.mod_eq_of_lt a.isLt, Nat.mod_eq_of_lt b.isLt] at this
  unfold U
  omega
theorem top63 (x : W) : x.getLsbD 63 = decide (9223372036854775808 ≤ U x) := by
  have h := BitVec.msb_eq_decide x
  rw [BitVec.msb_eq_getLsbD_last] at h
  have e : x.getLsbD 63 = x.getLsbD (64 - 1) := rfl
  rw [e, h]
  unfold U
  rw [Bool.eq_iff_iff, decide_eq_true_eq, decide_eq_true_eq]
  constructor
  · intro h; have : (2 : Nat) ^ (64 - 1) = 9223372036854775808 := rfl
    omega
  · intro h; have : (2 : Nat) ^ (64 - 1) = 9223372036854775808 := rfl
    omega
theorem top_and (a b : W) : ((U (a &&& topW) == U (b &&& topW)) = true) ↔ a.getLsbD 63 = b.getLsbD 63 := by
  rw [beq_iff_eq, U_inj]
  constructor
  · intro h
    have h2 : (a &&& topW).getLsbD 63 = (b &&& topW).getLsbD 63 := by rw [h]
    rw [BitVec.getLsbD_and, BitVec.getLsbD_and, topW_bit 63 (by decide)] at h2
    have e : decide (63 = 63) = true := rfl
    rwa [e, Bool.and_true, Bool.and_true] at h2
  · intro h
    apply BitVec.eq_of_getLsbD_eq
    intro i hi
    rw [BitVec.getLsbD_and, BitVec.getLsbD_and, topW_bit i hi]
    by_cases e : i = 63
    · subst e; rw [h]
    · simp [e]
/-- The least number with a sign of a pattern, and the greatest. -/
def slo (v m : W) : W := lo v m ||| (m &&& topW)
def shi (v m : W) : W := lo v m ||| (m &&& ~~~topW)
theorem slo63 (v m : W) : (slo v m).getLsbD 63 = ((lo v m).getLsbD 63 || m.getLsbD 63) := by
  unfold slo
  rw [BitVec.getLsbD_or, BitVec.getLsbD_and, topW_bit 63 (by decide)]
  have e : decide (63 = 63) = true := rfl
  rw [e, Bool.and_true]
theorem shi63 (v m : W) : (shi v m).getLsbD 63 = (lo v m).getLsbD 63 := by
  unfold shi
  rw [BitVec.getLsbD_or, BitVec.getLsbD_and, BitVec.getLsbD_not, topW_bit 63 (by decide)]
  have e : decide (63 = 63) = true := rfl
  rw [e]
  cases (lo v m).getLsbD 63 <;> cases m.getLsbD 63 <;> rfl
theorem slo_bit {v m : W} {i : Nat} (hi : i < 64) (h : i ≠ 63) : (slo v m).getLsbD i = (lo v m).getLsbD i := by
  unfold slo
  rw [BitVec.getLsbD_or, BitVec.getLsbD_and, topW_bit i hi]
  have e : decide (i = 63) = false := decide_eq_false h
  rw [e, Bool.and_false, Bool.or_false]
theorem shi_bit {v m : W} {i : Nat} (hi : i < 64) (h : i ≠ 63) : (shi v m).getLsbD i = ((lo v m).getLsbD i || m.getLsbD i) := by
  unfold shi
  rw [BitVec.getLsbD_or, BitVec.getLsbD_and, BitVec.getLsbD_not, topW_bit i hi]
  have e : decide (i = 63) = false := decide_eq_false h
  have d : decide (i < 64) = true := decide_eq_true hi
  rw [e, d]
  cases (lo v m).getLsbD i <;> cases m.getLsbD i <;> rfl
/-- Two numbers whose tops tell, or whose bits do. -/
theorem sle_of {a x : W} (h : (a.getLsbD 63 = true ∧ x.getLsbD 63 = false) ∨ (a.getLsbD 63 = x.getLsbD 63 ∧ U a ≤ U x)) : wrap64 (U a) ≤ wrap64 (U x) := by
  have ha := top63 a
  have hx := top63 x
  have r1 := U_lo x
  have r2 := U_hi x
  have r3 := U_lo a
  have r4 := U_hi a
  unfold wrap64
  rcases h with ⟨h1, h2⟩ | ⟨h1, h2⟩
  · rw [h1] at ha
    rw [h2] at hx
    have ha := of_decide_eq_true ha.symm
    have hx := of_decide_eq_false hx.symm
    omega
  · rw [ha, hx] at h1
    have h3 : (9223372036854775808 ≤ U a) ↔ (9223372036854775808 ≤ U x) := by simpa using h1
    omega
theorem slo_le {v m x : W} (h : Has v m x) : wrap64 (U (slo v m)) ≤ wrap64 (U x) := by
  have b := has_bit h (show 63 < 64 by decide)
  have l63 := lo_bit v m (show 63 < 64 by decide)
  have s63 := slo63 v m
  apply sle_of
  by_cases hc : x.getLsbD 63 = true ∨ m.getLsbD 63 = false
  · right
    have e : (slo v m).getLsbD 63 = x.getLsbD 63 := by
      rw [s63, l63]
      rw [← b]
      rcases hc with hc | hc <;> rw [hc] <;> (first | (cases m.getLsbD 63 <;> rfl) | (cases x.getLsbD 63 <;> rfl))
    refine ⟨e, In.leU ?_⟩
    intro i hi
    by_cases hlt : i < 64
    · by_cases h6 : i = 63
      · subst h6; rw [← e]; exact hi
      · rw [slo_bit hlt h6] at hi
        exact in_lo h i hi
    · rw [ge64 _ hlt] at hi; exact absurd hi (by decide)
  · left
    have h1 : x.getLsbD 63 = false := by
      cases hx : x.getLsbD 63
      · rfl
      · exact absurd (Or.inl hx) hc
    have h2 : m.getLsbD 63 = true := by
      cases hx : m.getLsbD 63
      · exact absurd (Or.inr hx) hc
      · rfl
    refine ⟨?_, h1⟩
    rw [s63, h2, Bool.or_true]
theorem shi_ge {v m x : W} (h : Has v m x) : wrap64 (U x) ≤ wrap64 (U (shi v m)) := by
  have b := has_bit h (show 63 < 64 by decide)
  have l63 := lo_bit v m (show 63 < 64 by decide)
  have s63 := shi63 v m
  apply sle_of
  by_cases hc : x.getLsbD 63 = false ∨ m.getLsbD 63 = false
  · right
    have e : x.getLsbD 63 = (shi v m).getLsbD 63 := by
      rw [s63, l63]
      rw [← b]
      rcases hc with hc | hc <;> rw [hc] <;> (first | (cases m.getLsbD 63 <;> rfl) | (cases x.getLsbD 63 <;> rfl))
    refine ⟨e, In.leU ?_⟩
    intro i hi
    by_cases hlt : i < 64
    · by_cases h6 : i = 63
      · subst h6; rw [← e]; exact hi
      · rw [shi_bit hlt h6]
        have := in_hi h i hi
        rw [hi_bit v m hlt] at this
        rw [lo_bit v m hlt]
        cases hm : m.getLsbD i
        · rw [hm] at this; simpa using this
        · simp
    · rw [ge64 _ hlt] at hi; exact absurd hi (by decide)
  · left
    have h1 : x.getLsbD 63 = true := by
      cases hx : x.getLsbD 63
      · exact absurd (Or.inl hx) hc
      · rfl
    have h2 : m.getLsbD 63 = true := by
      cases hx : m.getLsbD 63
      · exact absurd (Or.inr hx) hc
      · rfl
    refine ⟨h1, ?_⟩
    rw [s63, l63, h2, Bool.not_true, Bool.and_false]
/-! ### The document's way: bit by bit -/
/-- Bit number i of a whole number. -/
def ib (x : W) (i : Nat) : Bool := x.getLsbD i
theorem U_half (x : W) : IntKind.u64.wrap (Int.tdiv (U x) 2) = U (x >>> 1) := by
  rw [Int.tdiv_eq_ediv_of_nonneg (U_lo x), wrap_u64_id (by have := U_lo x; omega) (by have := U_hi x; omega)]
  have := U_shr x 1 (by decide) (by decide)
  unfold shr at this
  exact this
theorem U_odd (x : W) : Int.tmod (U x) 2 = if x.getLsbD 0 = true then 1 else 0 := by
  rw [Int.tmod_eq_emod_of_nonneg (U_lo x)]
  unfold U
  have e : x.getLsbD 0 = decide (x.toNat % 2 = 1) := by
    rw [← BitVec.testBit_toNat, Nat.testBit_zero]
  rw [e]
  by_cases h : x.toNat % 2 = 1
  · rw [if_pos (by simpa using h)]; omega
  · rw [if_neg (by simpa using h)]; omega
theorem bit_loop (v m : W) (i : Nat) (hi : i ≤ 64) : ∀ (d k j : Nat), j + d = i → d < k →
    halberdref06_Bit.l0 k i (U (m >>> j)) (U (v >>> j)) j = some (m.getLsbD i || !v.getLsbD i, m.getLsbD i || v.getLsbD i) := by
  intro d
  induction d with
  | zero =>
    intro k j hj hk
    obtain ⟨k, rfl⟩ : ∃ n, k = n + 1 := ⟨k - 1, by omega⟩
    obtain rfl : j = i := by omega
    simp only [halberdref06_Bit.l0]
    rw [if_neg (by omega), U_odd, U_odd, BitVec.getLsbD_ushiftRight, BitVec.getLsbD_ushiftRight, Nat.add_zero]
    cases hm : m.getLsbD j <;> cases hv : v.getLsbD j <;> simp
  | succ d ih =>
    intro k j hj hk
    obtain ⟨k, rfl⟩ : ∃ n, k = n + 1 := ⟨k - 1, by omega⟩
    simp only [halberdref06_Bit.l0]
    have e3 : wrap64 ((j : Int) + 1) = ((j + 1 : Nat) : Int) := by unfold wrap64; omega
    rw [if_pos (by omega), U_half, U_half, e3, ← BitVec.shiftRight_add, ← BitVec.shiftRight_add]
    exact ih k (j + 1) (by omega) (by omega)
theorem bit_val (v m : W) (i k : Nat) (hi : i ≤ 64) (hk : i < k) : halberdref06_Bit.f k (U v) (U m) i = some (m.getLsbD i || !v.getLsbD i, m.getLsbD i || v.getLsbD i) := by
  unfold halberdref06_Bit.f
  have := bit_loop v m i hi i k 0 (by omega) hk
  simpa using this
/-! ### Ranges -/
/-- The n lowest bits. -/
def lowW (n : Nat) : W := BitVec.ofNat 64 (2 ^ n - 1)
theorem lowW_bit (n i : Nat) (hi : i < 64) : (lowW n).getLsbD i = decide (i < n) := by
  unfold lowW
  rw [BitVec.getLsbD_ofNat, Nat.testBit_two_pow_sub_one]
  simp [hi]
theorem low_val (n : Nat) (hn : n ≤ 64) : words_Low.f n = some (U (lowW n)) := by
  have key : ∀ n : Fin 65, words_Low.f (n.val : Int) = some (U (lowW n.val)) := by decide +kernel
  exact key ⟨n, by omega⟩
theorem bitLen_facts (d : Nat) (h : d < 2 ^ 64) : d < 2 ^ Lib.bitLen d ∧ (∀ j, j < Lib.bitLen d → 2 ^ j ≤ d) ∧ Lib.bitLen d ≤ 64 := by
  by_cases h0 : d = 0
  · subst h0
    have e : Lib.bitLen 0 = 0 := rfl
    rw [e]
    exact ⟨by decide, fun j hj => by omega, by omega⟩
  · obtain ⟨a, b, c⟩ := Lib.bitLenAux_bounds 64 d h h0
    refine ⟨c, fun j hj => ?_, ?_⟩
    · have hj' : j < Lib.bitLenAux 64 d := hj
      exact Nat.le_trans (Nat.pow_le_pow_right (by decide) (by omega)) b
    · have : Lib.bitLenAux 64 d - 1 < 64 := by
        rcases Nat.lt_or_ge (Lib.bitLenAux 64 d - 1) 64 with h1 | h1
        · exact h1
        · have := Nat.pow_le_pow_right (show 0 < 2 by decide) h1
          omega
      show Lib.bitLenAux 64 d ≤ 64
      omega
theorem shr_same (a b : W) (j : Nat) : (a >>> j = b >>> j) ↔ (a ^^^ b).toNat < 2 ^ j := by
  constructor
  · intro h
    have e : (a ^^^ b) >>> j = 0#64 := by
      apply BitVec.eq_of_getLsbD_eq
      intro i hi
      have := congrArg (fun x => BitVec.getLsbD x i) h
      simp only [BitVec.getLsbD_ushiftRight] at this
      rw [BitVec.getLsbD_ushiftRight, BitVec.getLsbD_xor, this]
      simp
    have e2 := congrArg BitVec.toNat e
    rw [BitVec.toNat_ushiftRight, Nat.shiftRight_eq_div_pow] at e2
    have e3 : (a ^^^ b).toNat / 2 ^ j = 0 := by simpa using e2
    exact (Nat.div_eq_zero_iff_lt (Nat.two_pow_pos j)).1 e3
  · intro h
    apply BitVec.eq_of_getLsbD_eq
    intro i hi
    rw [BitVec.getLsbD_ushiftRight, BitVec.getLsbD_ushiftRight]
    have e : (a ^^^ b).getLsbD (j + i) = false := by
      rw [← BitVec.testBit_toNat]
      exact Nat.testBit_lt_two_pow (Nat.lt_of_lt_of_le h (Nat.pow_le_pow_right (by decide) (by omega)))
    rw [BitVec.getLsbD_xor] at e
    revert e
    cases a.getLsbD (j + i) <;> cases b.getLsbD (j + i) <;> simp
theorem U_pow (j : Nat) (hj : j < 64) : ((2 : Int) ^ j) = U (1#64 <<< j) := by
  unfold U
  rw [BitVec.toNat_shiftLeft, Nat.shiftLeft_eq]
  have : 2 ^ j < 2 ^ 64 := Nat.pow_lt_pow_right (by decide) hj
  have e : (1#64).toNat * 2 ^ j % 2 ^ 64 = 2 ^ j := by
    show 1 * 2 ^ j % 2 ^ 64 = 2 ^ j
    rw [Nat.one_mul, Nat.mod_eq_of_lt this]
  rw [e]
  simp
theorem U_quot (x : W) (j : Nat) (hj : j < 64) : IntKind.u64.wrap (Int.tdiv (U x) (2 ^ j)) = U (x >>> j) := by
  rw [Int.tdiv_eq_ediv_of_nonneg (U_lo x)]
  have h := U_shr x j (by omega) (by omega)
  unfold shr at h
  have e : min (j : Int).toNat IntKind.u64.bits = j := by
    have : IntKind.u64.bits = 64 := rfl
    rw [this]; omega
  rw [e, Int.toNat_natCast] at h
  rw [h, U_wrap]
theorem U_back (x : W) (j : Nat) (hj : j < 64) : IntKind.u64.wrap (U (x >>> j) * 2 ^ j) = U (x &&& ~~~lowW j) := by
  have h := U_shl (x >>> j) j (by omega) (by omega)
  unfold shl at h
  have e : min (j : Int).toNat IntKind.u64.bits = j := by
    have : IntKind.u64.bits = 64 := rfl
    rw [this]; omega
  rw [e, Int.toNat_natCast] at h
  rw [h, U_inj]
  apply BitVec.eq_of_getLsbD_eq
  intro i hi
  rw [BitVec.getLsbD_shiftLeft, BitVec.getLsbD_ushiftRight, BitVec.getLsbD_and, BitVec.getLsbD_not, lowW_bit _ _ hi]
  by_cases hij : i < j
  · simp [hij]
  · simp [hij, hi, show j + (i - j) = i by omega]
theorem lowW_val (j : Nat) (hj : j ≤ 64) : U (lowW j) = 2 ^ j - 1 := by
  unfold U lowW
  rw [BitVec.toNat_ofNat]
  have h1 : 2 ^ j ≤ 2 ^ 64 := Nat.pow_le_pow_right (by decide) hj
  have h2 := Nat.two_pow_pos j
  rw [Nat.mod_eq_of_lt (by omega)]
  have : ((2 ^ j : Nat) : Int) = (2 : Int) ^ j := by simp
  omega
/-- A range's pattern, both ways. -/
def rangeV (a b : W) : W := if b < a then 0#64 else a &&& ~~~lowW (Lib.bitLen (a ^^^ b).toNat)
def rangeM (a b : W) : W := if b < a then BitVec.allOnes 64 else lowW (Lib.bitLen (a ^^^ b).toNat)
theorem range_prog (a b : W) : tnum_Range.f (U a) (U b) = some (U (rangeV a b), U (rangeM a b)) := by
  unfold tnum_Range.f rangeV rangeM
  by_cases h : b < a
  · rw [if_pos (U_lt.2 h), if_pos h, if_pos h]; rfl
  · rw [if_neg (by rw [U_lt]; exact h), if_neg h, if_neg h, U_xor]
    have hl := bitLen_facts (a ^^^ b).toNat (a ^^^ b).isLt
    have e : bits_Len64.f (U (a ^^^ b)) = some ((Lib.bitLen (a ^^^ b).toNat : Nat) : Int) := by
      unfold bits_Len64.f
      rw [if_pos ⟨U_lo _, by have := U_hi (a ^^^ b); omega⟩]
      rfl
    rw [e]
    simp only [Option.bind_some]
    rw [low_val _ hl.2.2]
    simp only [Option.bind_some, t_right]
    rfl
theorem rrange_loop (a b : W) : ∀ (r k j : Nat), j ≤ 63 → j ≤ Lib.bitLen (a ^^^ b).toNat → r = 64 - j → r < k →
    halberdref06_Range.l0 k (U a) (U b) (2 ^ j) (U (lowW j)) = some (U (a &&& ~~~lowW (Lib.bitLen (a ^^^ b).toNat)), U (lowW (Lib.bitLen (a ^^^ b).toNat))) := by
  have hf := bitLen_facts (a ^^^ b).toNat (a ^^^ b).isLt
  generalize Lib.bitLen (a ^^^ b).toNat = n at hf ⊢
  intro r
  induction r with
  | zero => intro k j h1 h2 h3 h4; omega
  | succ r ih =>
    intro k j h1 h2 h3 h4
    obtain ⟨k, rfl⟩ : ∃ n, k = n + 1 := ⟨k - 1, by omega⟩
    simp only [halberdref06_Range.l0]
    have hp : (0 : Int) < 2 ^ j := Int.pow_pos (by decide)
    rw [if_neg (by omega), U_quot a j (by omega), U_quot b j (by omega)]
    by_cases hjn : j = n
    · subst hjn
      rw [if_pos (by rw [U_inj]; exact (shr_same a b j).2 hf.1), U_back a j (by omega)]
    · have hne : ¬ (U (a >>> j) = U (b >>> j)) := by
        rw [U_inj, shr_same]
        have := hf.2.1 j (by omega)
        omega
      rw [if_neg hne]
      by_cases h63 : j = 63
      · subst h63
        have hn : n = 64 := by have := hf.2.2; omega
        subst hn
        rw [if_pos (by decide)]
        have e1 : (0 : Int) = U (a &&& ~~~lowW 64) := by
          rw [U_zero, U_inj]
          apply BitVec.eq_of_getLsbD_eq
          intro i hi
          rw [BitVec.getLsbD_and, BitVec.getLsbD_not, lowW_bit _ _ hi]
          simp [hi]
        have e2 : IntKind.u64.wrap (U (lowW 63) + 2 ^ 63) = U (lowW 64) := by decide
        rw [e2, ← e1]
      · have hpl : (2 : Int) ^ j ≠ 9223372036854775808 := by
          intro h
          have h' : (2 : Int) ^ j = 2 ^ 63 := h
          have h1 : (2 : Nat) ^ j = 2 ^ 63 := by exact_mod_cast h'
          have h2 : (2 : Nat) ^ j < 2 ^ 63 := Nat.pow_lt_pow_right (by decide) (by omega)
          omega
        rw [if_neg hpl]
        have e1 : IntKind.u64.wrap (2 * 2 ^ j) = 2 ^ (j + 1) := by
          rw [Int.mul_comm, ← Int.pow_succ]
          have h64 : (2 : Int) ^ (j + 1) ≤ 2 ^ 63 := by
            have : (2 : Nat) ^ (j + 1) ≤ 2 ^ 63 := Nat.pow_le_pow_right (by decide) (by omega)
            exact_mod_cast this
          exact wrap_u64_id (by have : (0 : Int) < 2 ^ (j + 1) := Int.pow_pos (by decide); omega) (by omega)
        have e2 : IntKind.u64.wrap (U (lowW j) + 2 ^ j) = U (lowW (j + 1)) := by
          rw [lowW_val j (by omega), lowW_val (j + 1) (by omega), Int.pow_succ]
          have h64 : (2 : Int) ^ j ≤ 2 ^ 62 := by
            have : (2 : Nat) ^ j ≤ 2 ^ 62 := Nat.pow_le_pow_right (by decide) (by omega)
            exact_mod_cast this
          rw [show (2 : Int) ^ j - 1 + 2 ^ j = 2 ^ j * 2 - 1 by omega]
          exact wrap_u64_id (by omega) (by omega)
        rw [e1, e2]
        exact ih k (j + 1) (by omega) (by omega) (by omega) (by omega)
theorem range_ref (a b : W) (k : Nat) (hk : 64 < k) : halberdref06_Range.f k (U a) (U b) = some (U (rangeV a b), U (rangeM a b)) := by
  unfold halberdref06_Range.f rangeV rangeM
  by_cases h : b < a
  · rw [if_pos (U_lt.2 h), if_pos h, if_pos h]; rfl
  · rw [if_neg (by rw [U_lt]; exact h), if_neg h, if_neg h]
    have := rrange_loop a b 64 k 0 (by omega) (by omega) rfl hk
    exact this
/-! ### Lists of bits, put together -/
theorem rdOf_at (l : List Bool) (i : Nat) : rdOf false l (i : Int) = l.getD i false := by
  unfold rdOf
  rw [Int.toNat_natCast]
theorem U_twice (i : Nat) (hi : i < 64) : IntKind.u64.wrap (2 * U (1#64 <<< i)) = U (1#64 <<< (i + 1)) := by
  unfold U
  rw [IntKind.wrap_u64, BitVec.toNat_shiftLeft, BitVec.toNat_shiftLeft, Nat.shiftLeft_eq, Nat.shiftLeft_eq, Nat.pow_succ]
  have : (2 : Nat) ^ i < 2 ^ 64 := Nat.pow_lt_pow_right (by decide) hi
  have e : (1#64).toNat = 1 := rfl
  rw [e, Nat.one_mul, Nat.one_mul, Nat.mod_eq_of_lt this]
  omega
theorem add_bit (x : W) (i : Nat) (hi : i < 64) (h : ∀ j, i ≤ j → x.getLsbD j = false) : x + 1#64 <<< i = x ||| 1#64 <<< i := by
  refine BitVec.add_eq_or_of_and_eq_zero _ _ ?_
  apply BitVec.eq_of_getLsbD_eq
  intro j hj
  rw [BitVec.getLsbD_and, BitVec.getLsbD_zero, BitVec.getLsbD_shiftLeft]
  by_cases hij : j < i
  · simp [hij]
  · rw [h j (by omega)]; rfl
theorem one_bit (i j : Nat) (hj : j < 64) : (1#64 <<< i).getLsbD j = decide (i = j) := by
  rw [BitVec.getLsbD_shiftLeft]
  by_cases hij : j < i
  · simp [hij]; omega
  · simp [hij, hj]
    constructor <;> intro h <;> omega
theorem of_loop (zl ol : List Bool) (hz : zl.length = 64) (ho : ol.length = 64) : ∀ (d k i : Nat) (V M : W), i + d = 64 → 2 * d < k → (∀ j, i ≤ j → V.getLsbD j = false) → (∀ j, i ≤ j → M.getLsbD j = false) →
    ∃ V' M' : W, halberdref06_Of.l0 k zl ol (U (1#64 <<< i)) i (U V) (U M) = some (U V', U M') ∧ (∀ j, j < i → V'.getLsbD j = V.getLsbD j ∧ M'.getLsbD j = M.getLsbD j) ∧
      ∀ j, i ≤ j → j < 64 → M'.getLsbD j = (zl.getD j false && ol.getD j false) ∧ V'.getLsbD j = (ol.getD j false && !zl.getD j false) := by
  intro d
  induction d with
  | zero =>
    intro k i V M hi hk hV hM
    obtain ⟨k, rfl⟩ : ∃ n, k = n + 1 := ⟨k - 1, by omega⟩
    refine ⟨V, M, ?_, fun j hj => ⟨rfl, rfl⟩, fun j h1 h2 => by omega⟩
    simp only [halberdref06_Of.l0]
    rw [if_neg (by omega)]
  | succ d ih =>
    intro k i V M hi hk hV hM
    obtain ⟨k, rfl⟩ : ∃ n, k = n + 2 := ⟨k - 2, by omega⟩
    have hi64 : i < 64 := by omega
    have e3 : wrap64 ((i : Int) + 1) = ((i + 1 : Nat) : Int) := by unfold wrap64; omega
    have step : ∀ (V2 M2 : W), (∀ j, i + 1 ≤ j → V2.getLsbD j = false) → (∀ j, i + 1 ≤ j → M2.getLsbD j = false) → (∀ j, j < i → V2.getLsbD j = V.getLsbD j ∧ M2.getLsbD j = M.getLsbD j) →
        M2.getLsbD i = (zl.getD i false && ol.getD i false) → V2.getLsbD i = (ol.getD i false && !zl.getD i false) →
        halberdref06_Of.l0 (k + 2) zl ol (U (1#64 <<< i)) i (U V) (U M) = halberdref06_Of.l0 k zl ol (IntKind.u64.wrap (2 * U (1#64 <<< i))) (wrap64 ((i : Int) + 1)) (U V2) (U M2) →
        ∃ V' M' : W, halberdref06_Of.l0 (k + 2) zl ol (U (1#64 <<< i)) i (U V) (U M) = some (U V', U M') ∧ (∀ j, j < i → V'.getLsbD j = V.getLsbD j ∧ M'.getLsbD j = M.getLsbD j) ∧
          ∀ j, i ≤ j → j < 64 → M'.getLsbD j = (zl.getD j false && ol.getD j false) ∧ V'.getLsbD j = (ol.getD j false && !zl.getD j false) := by
      intro V2 M2 a1 a2 a3 a4 a5 a6
      obtain ⟨V', M', b1, b2, b3⟩ := ih k (i + 1) V2 M2 (by omega) (by omega) a1 a2
      rw [U_twice i hi64, e3] at a6
      refine ⟨V', M', a6.trans b1, fun j hj => ?_, fun j h1 h2 => ?_⟩
      · exact ⟨(b2 j (by omega)).1.trans (a3 j hj).1, (b2 j (by omega)).2.trans (a3 j hj).2⟩
      · by_cases hij : j = i
        · subst hij
          exact ⟨(b2 j (by omega)).2.trans a4, (b2 j (by omega)).1.trans a5⟩
        · exact b3 j (by omega) h2
    have hset : ∀ X : W, (∀ j, i ≤ j → X.getLsbD j = false) → (∀ j, i + 1 ≤ j → (X ||| 1#64 <<< i).getLsbD j = false) ∧ (∀ j, j < i → (X ||| 1#64 <<< i).getLsbD j = X.getLsbD j) ∧ (X ||| 1#64 <<< i).getLsbD i = true := by
      intro X hX
      refine ⟨fun j hj => ?_, fun j hj => ?_, ?_⟩
      · rw [BitVec.getLsbD_or, hX j (by omega)]
        by_cases hj64 : j < 64
        · rw [one_bit i j hj64]; simp; omega
        · rw [ge64 _ hj64]; rfl
      · rw [BitVec.getLsbD_or, one_bit i j (by omega), decide_eq_false (by omega)]; simp
      · rw [BitVec.getLsbD_or, one_bit i i hi64]; simp
    obtain ⟨v1, v2, v3⟩ := hset V hV
    obtain ⟨m1, m2, m3⟩ := hset M hM
    have q0 : (0 : Int) ≤ (i : Int) := by omega
    have q1 : (i : Int) < 64 := by omega
    have qz : (i : Int) < (zl.length : Int) := by omega
    have qo : (i : Int) < (ol.length : Int) := by omega
    cases hzz : zl.getD i false
    · cases hoo : ol.getD i false
      · refine step V M (fun j hj => hV j (by omega)) (fun j hj => hM j (by omega)) (fun j hj => ⟨rfl, rfl⟩) (by rw [hzz, hoo, hM i (Nat.le_refl i)]; rfl) (by rw [hzz, hoo, hV i (Nat.le_refl i)]; rfl) ?_
        simp only [halberdref06_Of.l0, halberdref06_Of.j1, rdOf_at, hzz, hoo, if_pos q1, if_pos q0, if_pos qz, if_pos qo, if_true, if_false, Bool.false_eq_true]
      · refine step (V ||| 1#64 <<< i) M v1 (fun j hj => hM j (by omega)) (fun j hj => ⟨v2 j hj, rfl⟩) (by rw [hzz, hoo, hM i (Nat.le_refl i)]; rfl) (by rw [hzz, hoo, v3]; rfl) ?_
        simp only [halberdref06_Of.l0, halberdref06_Of.j1, rdOf_at, hzz, hoo, if_pos q1, if_pos q0, if_pos qz, if_pos qo, if_true, if_false, Bool.false_eq_true, U_add, add_bit V i hi64 hV]
    · cases hoo : ol.getD i false
      · refine step V M (fun j hj => hV j (by omega)) (fun j hj => hM j (by omega)) (fun j hj => ⟨rfl, rfl⟩) (by rw [hzz, hoo, hM i (Nat.le_refl i)]; rfl) (by rw [hzz, hoo, hV i (Nat.le_refl i)]; rfl) ?_
        simp only [halberdref06_Of.l0, halberdref06_Of.j1, rdOf_at, hzz, hoo, if_pos q1, if_pos q0, if_pos qz, if_pos qo, if_true, if_false, Bool.false_eq_true]
      · refine step V (M ||| 1#64 <<< i) (fun j hj => hV j (by omega)) m1 (fun j hj => ⟨rfl, m2 j hj⟩) (by rw [hzz, hoo, m3]; rfl) (by rw [hzz, hoo, hV i (Nat.le_refl i)]; rfl) ?_
        simp only [halberdref06_Of.l0, halberdref06_Of.j1, rdOf_at, hzz, hoo, if_pos q1, if_pos q0, if_pos qz, if_pos qo, if_true, if_false, Bool.false_eq_true, U_add, add_bit M i hi64 hM]
theorem of_val (zl ol : List Bool) (hz : zl.length = 64) (ho : ol.length = 64) (k : Nat) (hk : 128 < k) (V M : W)
    (h : ∀ j, j < 64 → M.getLsbD j = (zl.getD j false && ol.getD j false) ∧ V.getLsbD j = (ol.getD j false && !zl.getD j false)) : halberdref06_Of.f k zl ol = some (U V, U M) := by
  unfold halberdref06_Of.f
  obtain ⟨V', M', h1, _, h3⟩ := of_loop zl ol hz ho 64 k 0 0#64 0#64 (by omega) (by omega) (fun j _ => by simp) (fun j _ => by simp)
  have e1 : V' = V := BitVec.eq_of_getLsbD_eq fun i hi => ((h3 i (Nat.zero_le i) hi).2).trans (h i hi).2.symm
  have e2 : M' = M := BitVec.eq_of_getLsbD_eq fun i hi => ((h3 i (Nat.zero_le i) hi).1).trans (h i hi).1.symm
  rw [← e1, ← e2]
  exact h1
theorem getD_set (l : List Bool) (i j : Nat) (b : Bool) (hi : i < l.length) : (l.set i b).getD j false = if j = i then b else l.getD j false := by
  by_cases h : j = i
  · subst h
    rw [if_pos rfl, List.getD_eq_getElem?_getD, List.getElem?_set_self hi]; rfl
  · rw [if_neg h, List.getD_eq_getElem?_getD, List.getElem?_set_ne (Ne.symm h), ← List.getD_eq_getElem?_getD]
/-! ### What two patterns have in common -/
/-- May bit i be 0, may it be 1? -/
def mz (v m : W) (i : Nat) : Bool := m.getLsbD i || !v.getLsbD i
def mo (v m : W) (i : Nat) : Bool := m.getLsbD i || v.getLsbD i
def clash (va ma vb mb : W) (i : Nat) : Bool := !(mz va ma i && mz vb mb i) && !(mo va ma i && mo vb mb i)
/-- What both have in common: the pattern. -/
def meetV (va ma vb mb : W) : W := lo (lo va ma ||| lo vb mb) (ma &&& mb)
def meets (va ma vb mb : W) : Prop := (lo va ma ^^^ lo vb mb) &&& ~~~(ma ||| mb) = 0#64
theorem meets_iff (va ma vb mb : W) : meets va ma vb mb ↔ ∀ j, j < 64 → clash va ma vb mb j = false := by
  constructor
  · intro h j hj
    have := congrArg (fun b => BitVec.getLsbD b j) h
    simp only [BitVec.getLsbD_and, BitVec.getLsbD_xor, BitVec.getLsbD_not, BitVec.getLsbD_or, lo_bit _ _ hj, hj, decide_true, Bool.true_and, BitVec.getLsbD_zero] at this
    unfold clash mz mo
    revert this
    cases va.getLsbD j <;> cases ma.getLsbD j <;> cases vb.getLsbD j <;> cases mb.getLsbD j <;> simp
  · intro h
    apply BitVec.eq_of_getLsbD_eq
    intro j hj
    have := h j hj
    simp only [BitVec.getLsbD_and, BitVec.getLsbD_xor, BitVec.getLsbD_not, BitVec.getLsbD_or, lo_bit _ _ hj, hj, decide_true, Bool.true_and, BitVec.getLsbD_zero]
    unfold clash mz mo at this
    revert this
    cases va.getLsbD j <;> cases ma.getLsbD j <;> cases vb.getLsbD j <;> cases mb.getLsbD j <;> simp
theorem meet_prog_yes {va ma vb mb : W} (h : meets va ma vb mb) : tnum_Meet.f (U va) (U ma) (U vb) (U mb) = some (U (meetV va ma vb mb), U (ma &&& mb), true) := by
  unfold tnum_Meet.f
  simp only [t_right, Option.bind_some, U_xor, U_or, U_andNot, U_and]
  have e : U ((lo va ma ^^^ lo vb mb) &&& ~~~(ma ||| mb)) = 0 := by rw [U_zero, U_inj]; exact h
  rw [if_pos e]
  rfl
theorem meet_prog_no {va ma vb mb : W} (h : ¬ meets va ma vb mb) : tnum_Meet.f (U va) (U ma) (U vb) (U mb) = some (0, 18446744073709551615, false) := by
  unfold tnum_Meet.f
  simp only [t_right, Option.bind_some, U_xor, U_or, U_andNot, U_and]
  have e : ¬ U ((lo va ma ^^^ lo vb mb) &&& ~~~(ma ||| mb)) = 0 := by rw [U_zero, U_inj]; exact h
  rw [if_neg e]
  rfl
theorem meet_has {va ma vb mb : W} (h : meets va ma vb mb) (x : W) : Has (meetV va ma vb mb) (ma &&& mb) x ↔ Has va ma x ∧ Has vb mb x := by
  have hc := (meets_iff _ _ _ _).1 h
  constructor
  · intro hx
    refine ⟨has_of fun j hj => ?_, has_of fun j hj => ?_⟩ <;>
    · have a1 := has_bit hx hj
      have a2 := hc j hj
      unfold meetV at a1
      unfold clash mz mo at a2
      rw [lo_bit _ _ hj, BitVec.getLsbD_or, BitVec.getLsbD_and, lo_bit _ _ hj, lo_bit _ _ hj] at a1
      revert a1 a2
      cases x.getLsbD j <;> cases va.getLsbD j <;> cases ma.getLsbD j <;> cases vb.getLsbD j <;> cases mb.getLsbD j <;> simp
  · rintro ⟨h1, h2⟩
    refine has_of fun j hj => ?_
    have a1 := has_bit h1 hj
    have a2 := has_bit h2 hj
    unfold meetV
    rw [lo_bit _ _ hj, BitVec.getLsbD_or, BitVec.getLsbD_and, lo_bit _ _ hj, lo_bit _ _ hj]
    revert a1 a2
    cases x.getLsbD j <;> cases va.getLsbD j <;> cases ma.getLsbD j <;> cases vb.getLsbD j <;> cases mb.getLsbD j <;> simp
theorem meets_of_has {va ma vb mb x : W} (h1 : Has va ma x) (h2 : Has vb mb x) : meets va ma vb mb := by
  rw [meets_iff]
  intro j hj
  have a1 := has_bit h1 hj
  have a2 := has_bit h2 hj
  unfold clash mz mo
  revert a1 a2
  cases x.getLsbD j <;> cases va.getLsbD j <;> cases ma.getLsbD j <;> cases vb.getLsbD j <;> cases mb.getLsbD j <;> simp
theorem rmeet_loop (va ma vb mb : W) : ∀ (d k i : Nat) (zl ol : List Bool), i + d = 64 → d + 140 < k → zl.length = 64 → ol.length = 64 →
    (∀ j, j < i → zl.getD j false = (mz va ma j && mz vb mb j) ∧ ol.getD j false = (mo va ma j && mo vb mb j)) →
    ((∃ j, i ≤ j ∧ j < 64 ∧ clash va ma vb mb j = true) ∧ halberdref06_Meet.l0 k zl ol i (U va) (U ma) (U vb) (U mb) = some (0, 18446744073709551615, false)) ∨
    ((∀ j, i ≤ j → j < 64 → clash va ma vb mb j = false) ∧ ∃ V M : W, halberdref06_Meet.l0 k zl ol i (U va) (U ma) (U vb) (U mb) = some (U V, U M, true) ∧
      ∀ j, j < 64 → M.getLsbD j = ((mz va ma j && mz vb mb j) && (mo va ma j && mo vb mb j)) ∧ V.getLsbD j = ((mo va ma j && mo vb mb j) && !(mz va ma j && mz vb mb j))) := by
  intro d
  induction d with
  | zero =>
    intro k i zl ol hi hk hz ho hl
    obtain ⟨k, rfl⟩ : ∃ n, k = n + 1 := ⟨k - 1, by omega⟩
    right
    refine ⟨fun j h1 h2 => by omega, ?_⟩
    obtain ⟨V', M', h1, _, h3⟩ := of_loop zl ol hz ho 64 k 0 0#64 0#64 (by omega) (by omega) (fun j _ => by simp) (fun j _ => by simp)
    refine ⟨V', M', ?_, fun j hj => ?_⟩
    · simp only [halberdref06_Meet.l0]
      rw [if_neg (by omega)]
      have e : halberdref06_Of.f k zl ol = some (U V', U M') := h1
      rw [e]; rfl
    · have := h3 j (Nat.zero_le j) hj
      rw [(hl j (by omega)).1, (hl j (by omega)).2] at this
      exact this
  | succ d ih =>
    intro k i zl ol hi hk hz ho hl
    obtain ⟨k, rfl⟩ : ∃ n, k = n + 1 := ⟨k - 1, by omega⟩
    have hi64 : i < 64 := by omega
    have e3 : wrap64 ((i : Int) + 1) = ((i + 1 : Nat) : Int) := by unfold wrap64; omega
    have unf : halberdref06_Meet.l0 (k + 1) zl ol i (U va) (U ma) (U vb) (U mb) =
        if (mz va ma i && mz vb mb i) = true ∨ (mo va ma i && mo vb mb i) = true then halberdref06_Meet.l0 k (zl.set i (mz va ma i && mz vb mb i)) (ol.set i (mo va ma i && mo vb mb i)) ((i + 1 : Nat) : Int) (U va) (U ma) (U vb) (U mb)
        else some (0, 18446744073709551615, false) := by
      have b1 := bit_val va ma i k (by omega) (by omega)
      have b2 := bit_val vb mb i k (by omega) (by omega)
      have q1 : mz va ma i = (ma.getLsbD i || !va.getLsbD i) := rfl
      have q2 : mz vb mb i = (mb.getLsbD i || !vb.getLsbD i) := rfl
      have q3 : mo va ma i = (ma.getLsbD i || va.getLsbD i) := rfl
      have q4 : mo vb mb i = (mb.getLsbD i || vb.getLsbD i) := rfl
      rw [← q1, ← q3] at b1
      rw [← q2, ← q4] at b2
      clear q1 q2 q3 q4
      simp only [halberdref06_Meet.l0]
      rw [if_pos (by omega), b1]
      simp only [Option.bind_some]
      rw [b2]
      simp only [Option.bind_some, e3, Int.toNat_natCast, rdOf_at]
      have hi0 : (0 : Int) ≤ (i : Int) := by omega
      have hiz : (i : Int) < (zl.length : Int) := by omega
      have hio : (i : Int) < (ol.length : Int) := by omega
      simp only [if_pos hi0, if_pos hiz, if_pos hio, getD_set _ i i _ (show i < zl.length by omega), getD_set _ i i _ (show i < ol.length by omega), if_true]
      cases mz va ma i <;> cases mo va ma i <;> cases mz vb mb i <;> cases mo vb mb i <;> simp
    rw [unf]
    by_cases hc : (mz va ma i && mz vb mb i) = true ∨ (mo va ma i && mo vb mb i) = true
    · rw [if_pos hc]
      have hno : clash va ma vb mb i = false := by
        unfold clash
        rcases hc with h | h <;> rw [h] <;> simp
      rcases ih k (i + 1) (zl.set i (mz va ma i && mz vb mb i)) (ol.set i (mo va ma i && mo vb mb i)) (by omega) (by omega) (by simpa using hz) (by simpa using ho) (fun j hj => by
        rw [getD_set _ _ _ _ (by omega), getD_set _ _ _ _ (by omega)]
        by_cases hij : j = i
        · subst hij; rw [if_pos rfl, if_pos rfl]; exact ⟨rfl, rfl⟩
        · rw [if_neg hij, if_neg hij]; exact hl j (by omega)) with ⟨⟨j, h1, h2, h3⟩, h4⟩ | ⟨h1, h2⟩
      · exact Or.inl ⟨⟨j, by omega, h2, h3⟩, h4⟩
      · refine Or.inr ⟨fun j h3 h4 => ?_, h2⟩
        by_cases hij : j = i
        · subst hij; exact hno
        · exact h1 j (by omega) h4
    · rw [if_neg hc]
      refine Or.inl ⟨⟨i, Nat.le_refl i, hi64, ?_⟩, rfl⟩
      unfold clash
      revert hc
      cases (mz va ma i && mz vb mb i) <;> cases (mo va ma i && mo vb mb i) <;> simp
theorem meet_ref_yes {va ma vb mb : W} (h : meets va ma vb mb) (k : Nat) (hk : 204 < k) : halberdref06_Meet.f k (U va) (U ma) (U vb) (U mb) = some (U (meetV va ma vb mb), U (ma &&& mb), true) := by
  unfold halberdref06_Meet.f
  rw [if_pos (by decide)]
  have hc := (meets_iff _ _ _ _).1 h
  rcases rmeet_loop va ma vb mb 64 k 0 (List.replicate 64 false) (List.replicate 64 false) (by omega) (by omega) (by simp) (by simp) (fun j hj => by omega) with ⟨⟨j, h1, h2, h3⟩, _⟩ | ⟨_, V, M, h2, h3⟩
  · rw [hc j h2] at h3; exact absurd h3 (by simp)
  · have e1 : V = meetV va ma vb mb := by
      apply BitVec.eq_of_getLsbD_eq
      intro j hj
      rw [(h3 j hj).2]
      have := hc j hj
      unfold meetV
      rw [lo_bit _ _ hj, BitVec.getLsbD_or, BitVec.getLsbD_and, lo_bit _ _ hj, lo_bit _ _ hj]
      unfold clash at this
      unfold mz mo at *
      revert this
      cases va.getLsbD j <;> cases ma.getLsbD j <;> cases vb.getLsbD j <;> cases mb.getLsbD j <;> simp
    have e2 : M = ma &&& mb := by
      apply BitVec.eq_of_getLsbD_eq
      intro j hj
      rw [(h3 j hj).1, BitVec.getLsbD_and]
      unfold mz mo
      cases va.getLsbD j <;> cases ma.getLsbD j <;> cases vb.getLsbD j <;> cases mb.getLsbD j <;> simp
    rw [← e1, ← e2]
    exact h2
theorem meet_ref_no {va ma vb mb : W} (h : ¬ meets va ma vb mb) (k : Nat) (hk : 204 < k) : halberdref06_Meet.f k (U va) (U ma) (U vb) (U mb) = some (0, 18446744073709551615, false) := by
  unfold halberdref06_Meet.f
  rw [if_pos (by decide)]
  rcases rmeet_loop va ma vb mb 64 k 0 (List.replicate 64 false) (List.replicate 64 false) (by omega) (by omega) (by simp) (by simp) (fun j hj => by omega) with ⟨_, h4⟩ | ⟨h1, _⟩
  · exact h4
  · exact absurd ((meets_iff _ _ _ _).2 (fun j hj => h1 j (Nat.zero_le j) hj)) h
/-! ### A round of refining: no number is lost, and none comes -/
theorem U_out (z : Int) (h0 : 0 ≤ z) (h1 : z < 18446744073709551616) : ∃ x : W, z = U x := U_of h0 h1
theorem range_has {a b x : W} (h1 : U a ≤ U x) (h2 : U x ≤ U b) : Has (rangeV a b) (rangeM a b) x := by
  unfold U at h1 h2
  have hab : ¬ b < a := by rw [BitVec.lt_def]; omega
  unfold rangeV rangeM
  rw [if_neg hab, if_neg hab]
  have hf := bitLen_facts (a ^^^ b).toNat (a ^^^ b).isLt
  generalize Lib.bitLen (a ^^^ b).toNat = j at hf
  have hs : a >>> j = b >>> j := (shr_same a b j).2 hf.1
  have hx : a >>> j = x >>> j := by
    apply BitVec.eq_of_toNat_eq
    have hs' := congrArg BitVec.toNat hs
    rw [BitVec.toNat_ushiftRight, BitVec.toNat_ushiftRight, Nat.shiftRight_eq_div_pow, Nat.shiftRight_eq_div_pow] at hs' ⊢
    have m1 : a.toNat / 2 ^ j ≤ x.toNat / 2 ^ j := Nat.div_le_div_right (by omega)
    have m2 : x.toNat / 2 ^ j ≤ b.toNat / 2 ^ j := Nat.div_le_div_right (by omega)
    omega
  apply has_of
  intro i hi
  by_cases hij : i < j
  · have d : decide (i < j) = true := decide_eq_true hij
    simp only [BitVec.getLsbD_and, BitVec.getLsbD_not, lowW_bit j i hi, d, hi, decide_true]
    simp
  · have e := congrArg (fun z => BitVec.getLsbD z (i - j)) hx
    simp only [BitVec.getLsbD_ushiftRight] at e
    rw [show j + (i - j) = i by omega] at e
    simp only [BitVec.getLsbD_and, BitVec.getLsbD_not, lowW_bit j i hi, hij, hi, e, decide_true, decide_false]
    simp
theorem mx_le (a b c : Int) : mx a b ≤ c ↔ a ≤ c ∧ b ≤ c := by unfold mx; split <;> omega
theorem le_mn (a b c : Int) : c ≤ mn a b ↔ c ≤ a ∧ c ≤ b := by unfold mn; split <;> omega
theorem mx_rg {a b l h : Int} (h1 : l ≤ a ∧ a < h) (h2 : l ≤ b ∧ b < h) : l ≤ mx a b ∧ mx a b < h := by unfold mx; split <;> omega
theorem mn_rg {a b l h : Int} (h1 : l ≤ a ∧ a < h) (h2 : l ≤ b ∧ b < h) : l ≤ mn a b ∧ mn a b < h := by unfold mn; split <;> omega
theorem U_rg (x : W) : 0 ≤ U x ∧ U x < 18446744073709551616 := ⟨U_lo x, U_hi x⟩
theorem wrap64_rg (z : Int) : -9223372036854775808 ≤ wrap64 z ∧ wrap64 z < 9223372036854775808 := by unfold wrap64; omega
theorem wrapu_rg (z : Int) : 0 ≤ IntKind.u64.wrap z ∧ IntKind.u64.wrap z < 18446744073709551616 := by rw [IntKind.wrap_u64]; omega
theorem top_num (a b : Int) (ha : 0 ≤ a ∧ a < 18446744073709551616) (hb : 0 ≤ b ∧ b < 18446744073709551616) : ((Go.bits .and .u64 a 9223372036854775808 == Go.bits .and .u64 b 9223372036854775808) = true) ↔ (9223372036854775808 ≤ a ↔ 9223372036854775808 ≤ b) := by
  obtain ⟨x, rfl⟩ := U_out a ha.1 ha.2
  obtain ⟨y, rfl⟩ := U_out b hb.1 hb.2
  rw [topW_U, U_and, U_and, top_and, top63, top63, ← topW_U]
  constructor
  · intro h; simpa using h
  · intro h; simpa using h
theorem rB_rg {A2 A3 A4 A5 : Int} (h : RG A2 A3 A4 A5) : RG A2 A3 (num_rB4 A2 A3 A4) (num_rB5 A2 A3 A5) := by
  obtain ⟨h1, h2, h3, h4, h5, h6, h7, h8⟩ := h
  have e1 : -9223372036854775808 ≤ num_rB4 A2 A3 A4 ∧ num_rB4 A2 A3 A4 < 9223372036854775808 := by
    unfold num_rB4; split
    · exact mx_rg ⟨h5, h6⟩ (wrap64_rg _)
    · exact ⟨h5, h6⟩
  have e2 : -9223372036854775808 ≤ num_rB5 A2 A3 A5 ∧ num_rB5 A2 A3 A5 < 9223372036854775808 := by
    unfold num_rB5; split
    · exact mn_rg ⟨h7, h8⟩ (wrap64_rg _)
    · exact ⟨h7, h8⟩
  exact ⟨h1, h2, h3, h4, e1.1, e1.2, e2.1, e2.2⟩
theorem rB_iff {v m x : W} {A2 A3 A4 A5 : Int} (h : RG A2 A3 A4 A5) : NH v m A2 A3 (num_rB4 A2 A3 A4) (num_rB5 A2 A3 A5) x ↔ NH v m A2 A3 A4 A5 x := by
  obtain ⟨h1, h2, h3, h4, h5, h6, h7, h8⟩ := h
  have ht := top_num A2 A3 ⟨h1, h2⟩ ⟨h3, h4⟩
  have r1 := U_lo x
  have r2 := U_hi x
  unfold NH num_rB4 num_rB5
  by_cases c : (Go.bits .and .u64 A2 9223372036854775808 == Go.bits .and .u64 A3 9223372036854775808) = true
  · rw [if_pos c, if_pos c, mx_le, le_mn]
    have c' := ht.1 c
    have key : A2 ≤ U x → U x ≤ A3 → wrap64 A2 ≤ wrap64 (U x) ∧ wrap64 (U x) ≤ wrap64 A3 := by
      intro k1 k2
      unfold wrap64
      omega
    constructor
    · rintro ⟨k0, k1, k2, k3, k4⟩; exact ⟨k0, k1, k2, k3.1, k4.1⟩
    · rintro ⟨k0, k1, k2, k3, k4⟩; exact ⟨k0, k1, k2, ⟨k3, (key k1 k2).1⟩, ⟨k4, (key k1 k2).2⟩⟩
  · rw [if_neg c, if_neg c]
theorem rC_rg {A2 A3 A4 A5 : Int} (h : RG A2 A3 A4 A5) : RG (num_rC2 A2 A4 A5) (num_rC3 A3 A4 A5) A4 A5 := by
  obtain ⟨h1, h2, h3, h4, h5, h6, h7, h8⟩ := h
  have e1 : 0 ≤ num_rC2 A2 A4 A5 ∧ num_rC2 A2 A4 A5 < 18446744073709551616 := by
    unfold num_rC2; split
    · exact mx_rg ⟨h1, h2⟩ (wrapu_rg _)
    · exact ⟨h1, h2⟩
  have e2 : 0 ≤ num_rC3 A3 A4 A5 ∧ num_rC3 A3 A4 A5 < 18446744073709551616 := by
    unfold num_rC3; split
    · exact mn_rg ⟨h3, h4⟩ (wrapu_rg _)
    · exact ⟨h3, h4⟩
  exact ⟨e1.1, e1.2, e2.1, e2.2, h5, h6, h7, h8⟩
theorem rC_iff {v m x : W} {A2 A3 A4 A5 : Int} (h : RG A2 A3 A4 A5) : NH v m (num_rC2 A2 A4 A5) (num_rC3 A3 A4 A5) A4 A5 x ↔ NH v m A2 A3 A4 A5 x := by
  obtain ⟨h1, h2, h3, h4, h5, h6, h7, h8⟩ := h
  have r1 := U_lo x
  have r2 := U_hi x
  unfold NH num_rC2 num_rC3
  by_cases c : (decide (A4 < 0) == decide (A5 < 0)) = true
  · rw [if_pos c, if_pos c, mx_le, le_mn]
    have c' : (A4 < 0 ↔ A5 < 0) := by simpa using c
    have key : A4 ≤ wrap64 (U x) → wrap64 (U x) ≤ A5 → IntKind.u64.wrap A4 ≤ U x ∧ U x ≤ IntKind.u64.wrap A5 := by
      intro k1 k2
      rw [IntKind.wrap_u64, IntKind.wrap_u64]
      unfold wrap64 at k1 k2
      omega
    constructor
    · rintro ⟨k0, k1, k2, k3, k4⟩; exact ⟨k0, k1.1, k2.1, k3, k4⟩
    · rintro ⟨k0, k1, k2, k3, k4⟩; exact ⟨k0, ⟨k1, (key k3 k4).1⟩, ⟨k2, (key k3 k4).2⟩, k3, k4⟩
  · rw [if_neg c, if_neg c]
/-- What is told at the end of a round, or of refining: all that was had is had. -/
structure Told (v m : W) (a2 a3 a4 a5 : Int) (ok : Bool) (v' m' : W) (c2 c3 c4 c5 : Int) : Prop where
  yes : ok = true → RG c2 c3 c4 c5 ∧ ∀ x, NH v' m' c2 c3 c4 c5 x ↔ NH v m a2 a3 a4 a5 x
  no : ok = false → ∀ x, ¬ NH v m a2 a3 a4 a5 x
theorem rEnd_told (v m : W) {A2 A3 A4 A5 : Int} (h : RG A2 A3 A4 A5) : ∃ (ok : Bool) (v' m' : W) (c2 c3 c4 c5 : Int), num_rEnd (U v) (U m) A2 A3 A4 A5 = some (ok, U v', U m', c2, c3, c4, c5) ∧ Told v m A2 A3 A4 A5 ok v' m' c2 c3 c4 c5 := by
  have hr := h
  obtain ⟨h1, h2, h3, h4, h5, h6, h7, h8⟩ := h
  unfold num_rEnd
  by_cases c : A3 < A2
  · exact ⟨false, v, m, A2, A3, A4, A5, if_pos c, fun e => absurd e (by decide), fun _ x hx => by have := hx.2.1; have := hx.2.2.1; omega⟩
  · rw [if_neg c]
    by_cases d : A5 < A4
    · exact ⟨false, v, m, A2, A3, A4, A5, if_pos d, fun e => absurd e (by decide), fun _ x hx => by have := hx.2.2.2.1; have := hx.2.2.2.2; omega⟩
    · rw [if_neg d]
      obtain ⟨a, rfl⟩ := U_out A2 h1 h2
      obtain ⟨b, rfl⟩ := U_out A3 h3 h4
      rw [range_prog, Option.bind_some]
      by_cases hm : meets v m (rangeV a b) (rangeM a b)
      · rw [meet_prog_yes hm, Option.bind_some]
        refine ⟨true, _, _, _, _, _, _, rfl, fun _ => ⟨hr, fun x => ?_⟩, fun e => absurd e (by decide)⟩
        constructor
        · rintro ⟨k0, k1⟩; exact ⟨((meet_has hm x).1 k0).1, k1⟩
        · rintro ⟨k0, k1, k2, k3⟩; exact ⟨(meet_has hm x).2 ⟨k0, range_has k1 k2⟩, k1, k2, k3⟩
      · rw [meet_prog_no hm, Option.bind_some]
        refine ⟨false, 0#64, BitVec.allOnes 64, U a, U b, A4, A5, rfl, fun e => absurd e (by decide), fun _ x hx => ?_⟩
        exact hm (meets_of_has hx.1 (range_has hx.2.1 hx.2.2.1))
theorem round_told (v m : W) {a2 a3 a4 a5 : Int} (h : RG a2 a3 a4 a5) : ∃ (ok : Bool) (v' m' : W) (c2 c3 c4 c5 : Int), num_known_round.f (U v) (U m) a2 a3 a4 a5 = some (ok, U v', U m', c2, c3, c4, c5) ∧ Told v m a2 a3 a4 a5 ok v' m' c2 c3 c4 c5 := by
  unfold num_known_round.f num_rMid
  rw [topW_U]
  simp only [U_andNot, U_and, U_or]
  simp only [show v &&& ~~~m = lo v m from rfl]
  simp only [show lo v m ||| m &&& topW = slo v m from rfl, show lo v m ||| m &&& ~~~topW = shi v m from rfl, show lo v m ||| m = hi v m from rfl]
  obtain ⟨h1, h2, h3, h4, h5, h6, h7, h8⟩ := h
  have g2 := mx_rg ⟨h1, h2⟩ (U_rg (lo v m))
  have g3 := mn_rg ⟨h3, h4⟩ (U_rg (hi v m))
  have g4 := mx_rg ⟨h5, h6⟩ (wrap64_rg (U (slo v m)))
  have g5 := mn_rg ⟨h7, h8⟩ (wrap64_rg (U (shi v m)))
  have hA : ∀ x, NH v m (mx a2 (U (lo v m))) (mn a3 (U (hi v m))) (mx a4 (wrap64 (U (slo v m)))) (mn a5 (wrap64 (U (shi v m)))) x ↔ NH v m a2 a3 a4 a5 x := by
    intro x
    unfold NH
    rw [mx_le, le_mn, mx_le, le_mn]
    constructor
    · rintro ⟨k0, k1, k2, k3, k4⟩; exact ⟨k0, k1.1, k2.1, k3.1, k4.1⟩
    · rintro ⟨k0, k1, k2, k3, k4⟩; exact ⟨k0, ⟨k1, In.leU (in_lo k0)⟩, ⟨k2, In.leU (in_hi k0)⟩, ⟨k3, slo_le k0⟩, ⟨k4, shi_ge k0⟩⟩
  have gA : RG _ _ _ _ := ⟨g2.1, g2.2, g3.1, g3.2, g4.1, g4.2, g5.1, g5.2⟩
  revert hA gA
  clear g2 g3 g4 g5
  generalize mx a2 (U (lo v m)) = A2
  generalize mn a3 (U (hi v m)) = A3
  generalize mx a4 (wrap64 (U (slo v m))) = A4
  generalize mn a5 (wrap64 (U (shi v m))) = A5
  intro hA gA
  have gB := rB_rg gA
  have gC := rC_rg gB
  obtain ⟨ok, v', m', c2, c3, c4, c5, e, t⟩ := rEnd_told v m gC
  refine ⟨ok, v', m', c2, c3, c4, c5, e, fun o => ⟨(t.yes o).1, fun x => ?_⟩, fun o x hx => ?_⟩
  · rw [(t.yes o).2 x, rC_iff gB, rB_iff gA, hA x]
  · exact t.no o x ((rC_iff gB).2 ((rB_iff gA).2 ((hA x).2 hx)))
theorem none_val : num_none = some (U 0#64, U (BitVec.allOnes 64), 0, 18446744073709551615, -9223372036854775808, 9223372036854775807, false) := rfl
theorem all_has (x : W) : NH 0#64 (BitVec.allOnes 64) 0 18446744073709551615 (-9223372036854775808) 9223372036854775807 x := by
  have r1 := U_lo x
  have r2 := U_hi x
  refine ⟨has_of fun i hi => ?_, by omega, by omega, (wrap64_rg _).1, by have := (wrap64_rg (U x)).2; omega⟩
  rw [BitVec.getLsbD_allOnes, decide_eq_true hi]
  simp
theorem refine_told (v m : W) {a2 a3 a4 a5 : Int} (h : RG a2 a3 a4 a5) : ∃ (ok : Bool) (v' m' : W) (c2 c3 c4 c5 : Int), num_Refine.f (U v) (U m) a2 a3 a4 a5 = some (U v', U m', c2, c3, c4, c5, ok) ∧ Told v m a2 a3 a4 a5 ok v' m' c2 c3 c4 c5 ∧ (ok = false → ∀ x, NH v' m' c2 c3 c4 c5 x) := by
  unfold num_Refine.f
  obtain ⟨ok, v1, m1, b2, b3, b4, b5, e, t⟩ := round_told v m h
  rw [num_Refine.l0, if_pos (by decide), e, Option.bind_some]
  cases ok with
  | false =>
    rw [if_neg Bool.false_ne_true, none_val]
    exact ⟨false, _, _, _, _, _, _, rfl, ⟨fun e => absurd e (by decide), fun _ => t.no rfl⟩, fun _ => all_has⟩
  | true =>
    rw [if_pos rfl]
    obtain ⟨ok2, v2, m2, d2, d3, d4, d5, e2, t2⟩ := round_told v1 m1 (t.yes rfl).1
    show ∃ _, _
    rw [show wrap64 (0 + 1) = 1 by unfold wrap64; omega, num_Refine.l0, if_pos (by decide)]
    simp only []
    rw [e2, Option.bind_some]
    cases ok2 with
    | false =>
      rw [if_neg Bool.false_ne_true, none_val]
      refine ⟨false, _, _, _, _, _, _, rfl, ⟨fun e => absurd e (by decide), fun _ x hx => ?_⟩, fun _ => all_has⟩
      exact t2.no rfl x (((t.yes rfl).2 x).2 hx)
    | true =>
      rw [if_pos rfl, show wrap64 (1 + 1) = 2 by unfold wrap64; omega, num_Refine.l0, if_neg (by decide)]
      refine ⟨true, _, _, _, _, _, _, rfl, ⟨fun _ => ⟨(t2.yes rfl).1, fun x => ?_⟩, fun e => absurd e (by decide)⟩, fun e => absurd e (by decide)⟩
      rw [(t2.yes rfl).2 x, (t.yes rfl).2 x]
/-! ### The document's round is the program's -/
theorem ite_mx {β : Type} (F : Int → β) (a b : Int) : (if a < b then F b else F a) = F (mx a b) := by unfold mx; split <;> rfl
theorem ite_mn {β : Type} (F : Int → β) (a b : Int) : (if a > b then F b else F a) = F (mn a b) := by
  unfold mn
  by_cases h : a > b
  · rw [if_pos h, if_pos h]
  · rw [if_neg h, if_neg h]
theorem topW_one : topW = 1#64 <<< 63 := by decide
theorem slo_val {v m : W} (h : m.getLsbD 63 = true) : IntKind.u64.wrap (U (lo v m) + 9223372036854775808) = U (slo v m) := by
  rw [topW_U, U_add]
  have e : m &&& topW = topW := by
    apply BitVec.eq_of_getLsbD_eq
    intro i hi
    rw [BitVec.getLsbD_and, topW_bit i hi]
    by_cases e : i = 63
    · subst e; rw [h]; rfl
    · rw [decide_eq_false e, Bool.and_false]
  unfold slo
  rw [e, topW_one, add_bit (lo v m) 63 (by decide)]
  intro j hj
  by_cases hlt : j < 64
  · obtain rfl : j = 63 := by omega
    rw [lo_bit v m hlt, h, Bool.not_true, Bool.and_false]
  · exact ge64 _ hlt
theorem shi_val {v m : W} (h : m.getLsbD 63 = true) : IntKind.u64.wrap (U (hi v m) - 9223372036854775808) = U (shi v m) := by
  rw [topW_U, U_sub]
  have h0 : ∀ j, 63 ≤ j → (shi v m).getLsbD j = false := by
    intro j hj
    by_cases hlt : j < 64
    · obtain rfl : j = 63 := by omega
      rw [shi63, lo_bit v m hlt, h, Bool.not_true, Bool.and_false]
    · exact ge64 _ hlt
  have e : hi v m = shi v m + topW := by
    rw [topW_one, add_bit (shi v m) 63 (by decide) h0, ← topW_one]
    apply BitVec.eq_of_getLsbD_eq
    intro i hi'
    rw [BitVec.getLsbD_or, topW_bit i hi', hi_bit v m hi']
    by_cases e : i = 63
    · subst e; rw [h, Bool.or_true, decide_eq_true rfl, Bool.or_true]
    · rw [decide_eq_false e, Bool.or_false, shi_bit hi' e, lo_bit v m hi']
      cases v.getLsbD i <;> cases m.getLsbD i <;> rfl
  congr 1
  rw [e, BitVec.add_sub_cancel]
theorem slo_low {v m : W} (h : m.getLsbD 63 = false) : slo v m = lo v m := by
  apply BitVec.eq_of_getLsbD_eq
  intro i hi
  by_cases e : i = 63
  · subst e; rw [slo63, h, Bool.or_false]
  · exact slo_bit hi e
theorem shi_low {v m : W} (h : m.getLsbD 63 = false) : shi v m = hi v m := by
  apply BitVec.eq_of_getLsbD_eq
  intro i hi'
  by_cases e : i = 63
  · subst e; rw [shi63, lo_bit v m hi', hi_bit v m hi', h, Bool.or_false, Bool.not_false, Bool.and_true]
  · rw [shi_bit hi' e, lo_bit v m hi', hi_bit v m hi']
    cases v.getLsbD i <;> cases m.getLsbD i <;> rfl
theorem rr0 (k : Nat) (x4 x5 s0 s1 A2 a3 a4 a5 : Int) : halberdref07_Round.j0 (k + 1) x4 x5 s0 s1 A2 a3 a4 a5 = halberdref07_Round.j1 k x4 x5 s0 s1 A2 (mn a3 x5) a4 a5 := by
  rw [halberdref07_Round.j0]
  exact ite_mn (fun z => halberdref07_Round.j1 k x4 x5 s0 s1 A2 z a4 a5) a3 x5
theorem rr1 (k : Nat) (v m : W) (s0 s1 A2 A3 a4 a5 : Int) : halberdref07_Round.j1 (k + 2) (U (lo v m)) (U (hi v m)) s0 s1 A2 A3 a4 a5 = halberdref07_Round.j3 k 9223372036854775808 (U (slo v m)) (U (shi v m)) s0 s1 A2 A3 a4 a5 := by
  have hl := top63 (lo v m)
  have hh := top63 (hi v m)
  rw [lo_bit v m (by decide)] at hl
  rw [hi_bit v m (by decide)] at hh
  rw [halberdref07_Round.j1]
  cases hm : m.getLsbD 63 with
  | true =>
    rw [hm, Bool.not_true, Bool.and_false] at hl
    rw [hm, Bool.or_true] at hh
    have hl := of_decide_eq_false hl.symm
    have hh := of_decide_eq_true hh.symm
    rw [if_pos hh, halberdref07_Round.j2, if_pos (decide_eq_true (by omega)), slo_val hm, shi_val hm]
  | false =>
    rw [hm, Bool.not_false, Bool.and_true] at hl
    rw [hm, Bool.or_false] at hh
    rw [slo_low hm, shi_low hm]
    by_cases c : U (hi v m) ≥ 9223372036854775808
    · rw [if_pos c, halberdref07_Round.j2]
      have : v.getLsbD 63 = true := by rw [hh]; exact decide_eq_true c
      rw [this] at hl
      have hl := of_decide_eq_true hl.symm
      rw [if_neg (by rw [decide_eq_false (by omega)]; decide)]
    · rw [if_neg c, halberdref07_Round.j2, if_neg Bool.false_ne_true]
theorem rr3 (k : Nat) (x7 x8 s0 s1 A2 A3 a4 a5 : Int) : halberdref07_Round.j3 (k + 2) 9223372036854775808 x7 x8 s0 s1 A2 A3 a4 a5 = halberdref07_Round.j5 k 9223372036854775808 s0 s1 A2 A3 (mx a4 (wrap64 x7)) (mn a5 (wrap64 x8)) := by
  rw [halberdref07_Round.j3]
  rw [ite_mx (fun z => halberdref07_Round.j4 (k + 1) 9223372036854775808 x8 s0 s1 A2 A3 z a5) a4 (wrap64 x7)]
  rw [halberdref07_Round.j4]
  exact ite_mn (fun z => halberdref07_Round.j5 k 9223372036854775808 s0 s1 A2 A3 (mx a4 (wrap64 x7)) z) a5 (wrap64 x8)
theorem rr5 (k : Nat) (s0 s1 A2 A3 A4 A5 : Int) (h : RG A2 A3 A4 A5) : halberdref07_Round.j5 (k + 1) 9223372036854775808 s0 s1 A2 A3 A4 A5 = halberdref07_Round.j6 k s0 s1 A2 A3 (num_rB4 A2 A3 A4) (num_rB5 A2 A3 A5) := by
  obtain ⟨h1, h2, h3, h4, h5, h6, h7, h8⟩ := h
  have ht := top_num A2 A3 ⟨h1, h2⟩ ⟨h3, h4⟩
  rw [halberdref07_Round.j5, if_neg (by decide)]
  have hq : (IntKind.u64.wrap (Int.tdiv A2 9223372036854775808) = IntKind.u64.wrap (Int.tdiv A3 9223372036854775808)) ↔ (9223372036854775808 ≤ A2 ↔ 9223372036854775808 ≤ A3) := by
    rw [Int.tdiv_eq_ediv_of_nonneg h1, Int.tdiv_eq_ediv_of_nonneg h3, IntKind.wrap_u64, IntKind.wrap_u64]
    omega
  unfold num_rB4 num_rB5
  by_cases c : (Go.bits .and .u64 A2 9223372036854775808 == Go.bits .and .u64 A3 9223372036854775808) = true
  · rw [if_pos c, if_pos c, if_pos (hq.2 (ht.1 c))]
    rw [ite_mn (fun z => halberdref07_Round.j6 k s0 s1 A2 A3 (wrap64 A2) z) A5 (wrap64 A3), ite_mn (fun z => halberdref07_Round.j6 k s0 s1 A2 A3 A4 z) A5 (wrap64 A3)]
    exact ite_mx (fun z => halberdref07_Round.j6 k s0 s1 A2 A3 z (mn A5 (wrap64 A3))) A4 (wrap64 A2)
  · rw [if_neg c, if_neg c, if_neg (fun e => c (ht.2 (hq.1 e)))]
theorem rr6 (k : Nat) (s0 s1 A2 A3 A4 A5 : Int) : halberdref07_Round.j6 (k + 2) s0 s1 A2 A3 A4 A5 = halberdref07_Round.j8 k s0 s1 (num_rC2 A2 A4 A5) (num_rC3 A3 A4 A5) A4 A5 := by
  have e : halberdref07_Round.j6 (k + 2) s0 s1 A2 A3 A4 A5 = halberdref07_Round.j7 (k + 1) (decide (A4 < 0) == decide (A5 < 0)) s0 s1 A2 A3 A4 A5 := by
    rw [halberdref07_Round.j6]
    by_cases c : A4 ≥ 0
    · have c1 : ¬ A4 < 0 := by omega
      rw [if_pos c, if_neg c1, decide_eq_false c1]
      by_cases d : A5 ≥ 0
      · have d1 : ¬ A5 < 0 := by omega
        rw [if_pos d, decide_eq_false d1]; rfl
      · have d1 : A5 < 0 := by omega
        rw [if_neg d, decide_eq_true d1]; rfl
    · have c1 : A4 < 0 := by omega
      rw [if_neg c, if_pos c1, decide_eq_true c1]
      cases decide (A5 < 0) <;> rfl
  rw [e, halberdref07_Round.j7]
  unfold num_rC2 num_rC3
  by_cases c : (decide (A4 < 0) == decide (A5 < 0)) = true
  · rw [if_pos c, if_pos c, if_pos c]
    rw [ite_mn (fun z => halberdref07_Round.j8 k s0 s1 (IntKind.u64.wrap A4) z A4 A5) A3 (IntKind.u64.wrap A5), ite_mn (fun z => halberdref07_Round.j8 k s0 s1 A2 z A4 A5) A3 (IntKind.u64.wrap A5)]
    exact ite_mx (fun z => halberdref07_Round.j8 k s0 s1 z (mn A3 (IntKind.u64.wrap A5)) A4 A5) A2 (IntKind.u64.wrap A4)
  · rw [if_neg c, if_neg c, if_neg c]
/-- What the document tells behind a round. -/
def told7 (ok : Bool) (s0 s1 c2 c3 c4 c5 : Int) : Option (Int × Int × Int × Int × Int × Int × Bool) := if ok = true then some (s0, s1, c2, c3, c4, c5, true) else some (0, 18446744073709551615, 0, 18446744073709551615, -9223372036854775808, 9223372036854775807, false)
theorem rr8 (k : Nat) (hk : 205 < k) (v m : W) (C2 C3 B4 B5 : Int) (h : RG C2 C3 B4 B5) : ∃ (ok : Bool) (v' m' : W), num_rEnd (U v) (U m) C2 C3 B4 B5 = some (ok, U v', U m', C2, C3, B4, B5) ∧ halberdref07_Round.j8 (k + 1) (U v) (U m) C2 C3 B4 B5 = told7 ok (U v') (U m') C2 C3 B4 B5 := by
  obtain ⟨k, rfl⟩ : ∃ n, k = n + 1 := ⟨k - 1, by omega⟩
  obtain ⟨h1, h2, h3, h4, h5, h6, h7, h8⟩ := h
  unfold num_rEnd
  rw [halberdref07_Round.j8]
  by_cases c : C3 < C2
  · refine ⟨false, v, m, if_pos c, ?_⟩
    rw [if_pos c, halberdref07_Round.j9, if_pos rfl]
    rfl
  · rw [if_neg c, if_neg (show ¬ C2 > C3 from c)]
    by_cases d : B5 < B4
    · refine ⟨false, v, m, if_pos d, ?_⟩
      rw [halberdref07_Round.j9, if_pos (decide_eq_true d)]
      rfl
    · rw [if_neg d, halberdref07_Round.j9, if_neg (by rw [decide_eq_false d]; decide)]
      obtain ⟨a, rfl⟩ := U_out C2 h1 h2
      obtain ⟨b, rfl⟩ := U_out C3 h3 h4
      rw [range_prog, range_ref a b k (by omega), Option.bind_some, Option.bind_some]
      by_cases hm : meets v m (rangeV a b) (rangeM a b)
      · rw [meet_prog_yes hm, meet_ref_yes hm k (by omega), Option.bind_some, Option.bind_some, if_pos rfl]
        exact ⟨true, _, _, rfl, rfl⟩
      · rw [meet_prog_no hm, meet_ref_no hm k (by omega), Option.bind_some, Option.bind_some, if_neg Bool.false_ne_true]
        exact ⟨false, 0#64, BitVec.allOnes 64, rfl, rfl⟩
theorem rround (k : Nat) (hk : 220 < k) (v m : W) (a2 a3 a4 a5 : Int) (h : RG a2 a3 a4 a5) : ∃ (ok : Bool) (v' m' : W) (c2 c3 c4 c5 : Int), num_known_round.f (U v) (U m) a2 a3 a4 a5 = some (ok, U v', U m', c2, c3, c4, c5) ∧ halberdref07_Round.f k (U v) (U m) a2 a3 a4 a5 = told7 ok (U v') (U m') c2 c3 c4 c5 ∧ RG c2 c3 c4 c5 := by
  obtain ⟨k, rfl⟩ : ∃ n, k = n + 10 := ⟨k - 10, by omega⟩
  obtain ⟨h1, h2, h3, h4, h5, h6, h7, h8⟩ := h
  have g2 := mx_rg ⟨h1, h2⟩ (U_rg (lo v m))
  have g3 := mn_rg ⟨h3, h4⟩ (U_rg (hi v m))
  have g4 := mx_rg ⟨h5, h6⟩ (wrap64_rg (U (slo v m)))
  have g5 := mn_rg ⟨h7, h8⟩ (wrap64_rg (U (shi v m)))
  have gA : RG (mx a2 (U (lo v m))) (mn a3 (U (hi v m))) (mx a4 (wrap64 (U (slo v m)))) (mn a5 (wrap64 (U (shi v m)))) := ⟨g2.1, g2.2, g3.1, g3.2, g4.1, g4.2, g5.1, g5.2⟩
  have gC := rC_rg (rB_rg gA)
  unfold num_known_round.f num_rMid
  have hw : IntKind.u64.wrap (U (lo v m) + U m) = U (hi v m) := by rw [U_add, lo_add]
  have er : halberdref07_Round.f (k + 10) (U v) (U m) a2 a3 a4 a5 = halberdref07_Round.j0 (k + 10) (U (lo v m)) (U (hi v m)) (U v) (U m) (mx a2 (U (lo v m))) a3 a4 a5 := by
    unfold halberdref07_Round.f
    rw [U_andNot, show v &&& ~~~m = lo v m from rfl, hw]
    exact ite_mx (fun z => halberdref07_Round.j0 (k + 10) (U (lo v m)) (U (hi v m)) (U v) (U m) z a3 a4 a5) a2 (U (lo v m))
  rw [er, rr0 (k + 9), rr1 (k + 7), rr3 (k + 5), rr5 (k + 4) _ _ _ _ _ _ gA, rr6 (k + 2)]
  rw [topW_U]
  simp only [U_andNot, U_and, U_or]
  simp only [show v &&& ~~~m = lo v m from rfl]
  simp only [show lo v m ||| m &&& topW = slo v m from rfl, show lo v m ||| m &&& ~~~topW = shi v m from rfl, show lo v m ||| m = hi v m from rfl]
  obtain ⟨ok, v', m', e, f⟩ := rr8 (k + 1) (by omega) v m _ _ _ _ gC
  exact ⟨ok, v', m', _, _, _, _, e, f, gC⟩
theorem rrefine (k : Nat) (hk : 220 < k) (v m : W) (a2 a3 a4 a5 : Int) (h : RG a2 a3 a4 a5) : ∃ (z1 z2 z3 z4 z5 z6 : Int) (ok : Bool), num_Refine.f (U v) (U m) a2 a3 a4 a5 = some (z1, z2, z3, z4, z5, z6, ok) ∧ halberdref07_Refine.f k (U v) (U m) a2 a3 a4 a5 = some (z1, z2, z3, z4, z5, z6, ok) := by
  unfold num_Refine.f halberdref07_Refine.f
  obtain ⟨ok, v1, m1, b2, b3, b4, b5, e, f, g⟩ := rround k hk v m a2 a3 a4 a5 h
  rw [num_Refine.l0, if_pos (by decide), e, f, Option.bind_some]
  cases ok with
  | false =>
    rw [if_neg Bool.false_ne_true, none_val, told7, if_neg Bool.false_ne_true, Option.bind_some, if_neg Bool.false_ne_true]
    exact ⟨_, _, _, _, _, _, _, rfl, rfl⟩
  | true =>
    rw [if_pos rfl, told7, if_pos rfl, Option.bind_some, if_pos rfl]
    obtain ⟨ok2, v2, m2, d2, d3, d4, d5, e2, f2, g2⟩ := rround k hk v1 m1 b2 b3 b4 b5 g
    rw [show wrap64 (0 + 1) = 1 by unfold wrap64; omega, num_Refine.l0, if_pos (by decide)]
    simp only []
    rw [e2, f2, Option.bind_some]
    cases ok2 with
    | false =>
      rw [if_neg Bool.false_ne_true, none_val, told7, if_neg Bool.false_ne_true, Option.bind_some]
      exact ⟨_, _, _, _, _, _, _, rfl, rfl⟩
    | true =>
      rw [if_pos rfl, show wrap64 (1 + 1) = 2 by unfold wrap64; omega, num_Refine.l0, if_neg (by decide), told7, if_pos rfl, Option.bind_some]
      exact ⟨_, _, _, _, _, _, _, rfl, rfl⟩
theorem rg_of {a2 a3 a4 a5 : Int} (h : (Lit.int .u64 a2).wf = true ∧ (Lit.int .u64 a3).wf = true ∧ (Lit.int .i64 a4).wf = true ∧ (Lit.int .i64 a5).wf = true) : RG a2 a3 a4 a5 :=
  ⟨(u64_of h.1).1, (u64_of h.1).2, (u64_of h.2.1).1, (u64_of h.2.1).2, (i64_of h.2.2.1).1, (i64_of h.2.2.1).2, (i64_of h.2.2.2).1, (i64_of h.2.2.2).2⟩
theorem num_alive : halberdlaw07_alive.f 300 = some true := by kernel_rfl
theorem all_val : halberdref07_All.f = some (U 0#64, U (BitVec.allOnes 64), 0, 18446744073709551615, -9223372036854775808, 9223372036854775807) := rfl
theorem pall_val : num_All.f = some (U 0#64, U (BitVec.allOnes 64), 0, 18446744073709551615, -9223372036854775808, 9223372036854775807) := rfl
theorem NumBounds : halberdlaw07_NumBounds.Pure := by
  intro b2 b3 b4 b5 h1 h2 h3 h4
  have g1 := u64_of h1
  have g2 := u64_of h2
  have g3 := i64_of h3
  have g4 := i64_of h4
  refine ⟨300, ?_⟩
  unfold halberdlaw07_NumBounds.f
  refine ask_ num_alive ?_
  obtain ⟨z1, z2, z3, z4, z5, z6, ok, e, f⟩ := rrefine 300 (by omega) 0#64 (BitVec.allOnes 64) b2 b3 (-9223372036854775808) 9223372036854775807 ⟨g1.1, g1.2, g2.1, g2.2, by decide, by decide, by decide, by decide⟩
  obtain ⟨y1, y2, y3, y4, y5, y6, ok2, e2, f2⟩ := rrefine 300 (by omega) 0#64 (BitVec.allOnes 64) 0 18446744073709551615 b4 b5 ⟨by decide, by decide, by decide, by decide, g3.1, g3.2, g4.1, g4.2⟩
  refine have_ all_val ?_
  refine have_ all_val ?_
  refine have_ f ?_
  refine have_ f2 ?_
  have hb : num_Bounds.f b2 b3 = some (z1, z2, z3, z4, z5, z6) := by
    unfold num_Bounds.f num_orAll.f
    rw [pall_val, Option.bind_some]
    simp only []
    rw [e]
    rfl
  have hs : num_Signed.f b4 b5 = some (y1, y2, y3, y4, y5, y6) := by
    unfold num_Signed.f num_orAll.f
    rw [pall_val, Option.bind_some]
    simp only []
    rw [e2]
    rfl
  refine have_ hb ?_
  refine yes_ (by simp only [beq_self_eq_true, Bool.and_self]) ?_
  refine have_ hs ?_
  simp only [beq_self_eq_true, Bool.and_self]

end Go.Proofs.Ytdojdjafleaedaa.Pure
