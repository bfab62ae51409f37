/- A number that is had is had behind refining, in what two tell together, and its low bytes in what is cut; no other number comes by refining: for all that is known of numbers, and all numbers. -/
import Derived.Test.YtdojdjafleaedaaPNumSoundx4
import Derived.Test.YtdojdjafleaedaaTB
import Derived.Lib.ItoaNum
set_option linter.unusedVariables false
set_option linter.unusedSimpArgs false
namespace Go.Proofs.Ytdojdjafleaedaa.Pure
open Go.RowKit Go.Proofs.Ytdojdjafleaedaa.PNumSound Go.Proofs.YtdojdjafleaedaaW.PrintWords Go.Proofs.YtdojdjafleaedaaW.PrintLast Go.Proofs.YtdojdjafleaedaaW.PrintMore Go.Proofs.Ytdojdjafleaedaa.HB Go.Proofs.Ytdojdjafleaedaa.TB

theorem t_right (v m : W) : tnum_right.f (U v) (U m) = some (U (lo v m), U m) := by
  unfold tnum_right.f lo
  rw [U_andNot]
theorem t_has (v m x : W) : tnum_Has.f (U v) (U m) (U x) = some (decide (Has v m x)) := by
  unfold tnum_Has.f
  rw [t_right]
  simp only [Option.bind_some, U_andNot]
  congr 1
  rw [Bool.eq_iff_iff]
  simp only [beq_iff_eq, U_inj, decide_eq_true_eq]
  rfl
theorem t_has_yes {v m x : W} (h : Has v m x) : tnum_Has.f (U v) (U m) (U x) = some true := by
  rw [t_has, decide_eq_true h]
theorem has07 (v m x : W) (a2 a3 a4 a5 : Int) : num_Has.f (U v) (U m) a2 a3 a4 a5 (U x) = some (decide (Has v m x ∧ a2 ≤ U x ∧ U x ≤ a3 ∧ a4 ≤ wrap64 (U x) ∧ wrap64 (U x) ≤ a5)) := by
  unfold num_Has.f
  refine have_ (t_has v m x) ?_
  by_cases h0 : Has v m x <;> by_cases h1 : a2 ≤ U x <;> by_cases h2 : U x ≤ a3 <;> by_cases h3 : a4 ≤ wrap64 (U x) <;> simp [h0, h1, h2, h3]
/-! ### What is known of a number: which numbers it has -/
def NH (v m : W) (a2 a3 a4 a5 : Int) (x : W) : Prop := Has v m x ∧ a2 ≤ U x ∧ U x ≤ a3 ∧ a4 ≤ wrap64 (U x) ∧ wrap64 (U x) ≤ a5
instance (v m : W) (a2 a3 a4 a5 : Int) (x : W) : Decidable (NH v m a2 a3 a4 a5 x) := inferInstanceAs (Decidable (_ ∧ _))
/-- The bounds are numbers of their kinds. -/
def RG (a2 a3 a4 a5 : Int) : Prop := 0 ≤ a2 ∧ a2 < 18446744073709551616 ∧ 0 ≤ a3 ∧ a3 < 18446744073709551616 ∧ -9223372036854775808 ≤ a4 ∧ a4 < 9223372036854775808 ∧ -9223372036854775808 ≤ a5 ∧ a5 < 9223372036854775808
def topW : W := 9223372036854775808#64
theorem topW_U : (9223372036854775808 : Int) = U topW := rfl
theorem topW_bit (i : Nat) (hi : i < 64) : topW.getLsbD i = decide (i = 63) := by
  have key : ∀ i : Fin 64, topW.getLsbD i.val = decide (i.val = 63) := by decide
  exact key ⟨i, hi⟩
theorem In.leU {a b : W} (h : In a b) : U a ≤ U b := by
  have := h.mod_le 64
  rw [Nat.mod_eq_of_lt a.isLt, Nat.mod_eq_of_lt b.isLt] at this
  unfold U
  omega
theorem top63 (x : W) : x.getLsbD 63 = decide (9223372036854775808 ≤ U x) := by
  have h := BitVec.msb_eq_decide x
  rw [BitVec.msb_eq_getLsbD_last] at h
  have e : x.getLsbD 63 = x.getLsbD (64 - 1) := rfl
  rw [e, h]
  unfold U
  rw [Bool.eq_iff_iff, decide_eq_true_eq, decide_eq_true_eq]
  constructor
  · intro h; have : (2 : Nat) ^ (64 - 1) = 9223372036854775808 := rfl
    omega
  · intro h; have : (2 : Nat) ^ (64 - 1) = 9223372036854775808 := rfl
    omega
theorem top_and (a b : W) : ((U (a &&& topW) == U (b &&& topW)) = true) ↔ a.getLsbD 63 = b.getLsbD 63 := by
  rw [beq_iff_eq, U_inj]
  constructor
  · intro h
    have h2 : (a &&& topW).getLsbD 63 = (b &&& topW).getLsbD 63 := by rw [h]
    rw [BitVec.getLsbD_and, BitVec.getLsbD_and, topW_bit 63 (by decide)] at h2
    have e : decide (63 = 63) = true := rfl
    rwa [e, Bool.and_true, Bool.and_true] at h2
  · intro h
    apply BitVec.eq_of_getLsbD_eq
    intro i hi
    rw [BitVec.getLsbD_and, BitVec.getLsbD_and, topW_bit i hi]
    by_cases e : i = 63
    · subst e; rw [h]
    · simp [e]
/-- The least number with a sign of a pattern, and the greatest. -/
def slo (v m : W) : W := lo v m ||| (m &&& topW)
def shi (v m : W) : W := lo v m ||| (m &&& ~~~topW)
theorem slo63 (v m : W) : (slo v m).getLsbD 63 = ((lo v m).getLsbD 63 || m.getLsbD 63) := by
  unfold slo
  rw [BitVec.getLsbD_or, BitVec.getLsbD_and, topW_bit 63 (by decide)]
  have e : decide (63 = 63) = true := rfl
  rw [e, Bool.and_true]
theorem shi63 (v m : W) : (shi v m).getLsbD 63 = (lo v m).getLsbD 63 := by
  unfold shi
  rw [BitVec.getLsbD_or, BitVec.getLsbD_and, BitVec.getLsbD_not, topW_bit 63 (by decide)]
  have e : decide (63 = 63) = true := rfl
  rw [e]
  cases (lo v m).getLsbD 63 <;> cases m.getLsbD 63 <;> rfl
theorem slo_bit {v m : W} {i : Nat} (hi : i < 64) (h : i ≠ 63) : (slo v m).getLsbD i = (lo v m).getLsbD i := by
  unfold slo
  rw [BitVec.getLsbD_or, BitVec.getLsbD_and, topW_bit i hi]
  have e : decide (i = 63) = false := decide_eq_false h
  rw [e, Bool.and_false, Bool.or_false]
theorem shi_bit {v m : W} {i : Nat} (hi : i < 64) (h : i ≠ 63) : (shi v m).getLsbD i = ((lo v m).getLsbD i || m.getLsbD i) := by
  unfold shi
  rw [BitVec.getLsbD_or, BitVec.getLsbD_and, BitVec.getLsbD_not, topW_bit i hi]
  have e : decide (i = 63) = false := decide_eq_false h
  have d : decide (i < 64) = true := decide_eq_true hi
  rw [e, d]
  cases (lo v m).getLsbD i <;> cases m.getLsbD i <;> rfl
/-- Two numbers whose tops tell, or whose bits do. -/
theorem sle_of {a x : W} (h : (a.getLsbD 63 = true ∧ x.getLsbD 63 = false) ∨ (a.getLsbD 63 = x.getLsbD 63 ∧ U a ≤ U x)) : wrap64 (U a) ≤ wrap64 (U x) := by
  have ha := top63 a
  have hx := top63 x
  have r1 := U_lo x
  have r2 := U_hi x
  have r3 := U_lo a
  have r4 := U_hi a
  unfold wrap64
  rcases h with ⟨h1, h2⟩ | ⟨h1, h2⟩
  · rw [h1] at ha
    rw [h2] at hx
    have ha := of_decide_eq_true ha.symm
    have hx := of_decide_eq_false hx.symm
    omega
  · rw [ha, hx] at h1
    have h3 : (9223372036854775808 ≤ U a) ↔ (9223372036854775808 ≤ U x) := by simpa using h1
    omega
theorem slo_le {v m x : W} (h : Has v m x) : wrap64 (U (slo v m)) ≤ wrap64 (U x) := by
  have b := has_bit h (show 63 < 64 by decide)
  have l63 := lo_bit v m (show 63 < 64 by decide)
  have s63 := slo63 v m
  apply sle_of
  by_cases hc : x.getLsbD 63 = true ∨ m.getLsbD 63 = false
  · right
    have e : (slo v m).getLsbD 63 = x.getLsbD 63 := by
      rw [s63, l63]
      rw [← b]
      rcases hc with hc | hc <;> rw [hc] <;> (first | (cases m.getLsbD 63 <;> rfl) | (cases x.getLsbD 63 <;> rfl))
    refine ⟨e, In.leU ?_⟩
    intro i hi
    by_cases hlt : i < 64
    · by_cases h6 : i = 63
      · subst h6; rw [← e]; exact hi
      · rw [slo_bit hlt h6] at hi
        exact in_lo h i hi
    · rw [ge64 _ hlt] at hi; exact absurd hi (by decide)
  · left
    have h1 : x.getLsbD 63 = false := by
      cases hx : x.getLsbD 63
      · rfl
      · exact absurd (Or.inl hx) hc
    have h2 : m.getLsbD 63 = true := by
      cases hx : m.getLsbD 63
      · exact absurd (Or.inr hx) hc
      · rfl
    refine ⟨?_, h1⟩
    rw [s63, h2, Bool.or_true]
theorem shi_ge {v m x : W} (h : Has v m x) : wrap64 (U x) ≤ wrap64 (U (shi v m)) := by
  have b := has_bit h (show 63 < 64 by decide)
  have l63 := lo_bit v m (show 63 < 64 by decide)
  have s63 := shi63 v m
  apply sle_of
  by_cases hc : x.getLsbD 63 = false ∨ m.getLsbD 63 = false
  · right
    have e : x.getLsbD 63 = (shi v m).getLsbD 63 := by
      rw [s63, l63]
      rw [← b]
      rcases hc with hc | hc <;> rw [hc] <;> (first | (cases m.getLsbD 63 <;> rfl) | (cases x.getLsbD 63 <;> rfl))
    refine ⟨e, In.leU ?_⟩
    intro i hi
    by_cases hlt : i < 64
    · by_cases h6 : i = 63
      · subst h6; rw [← e]; exact hi
      · rw [shi_bit hlt h6]
        have := in_hi h i hi
        rw [hi_bit v m hlt] at this
        rw [lo_bit v m hlt]
        cases hm : m.getLsbD i
        · rw [hm] at this; simpa using this
        · simp
    · rw [ge64 _ hlt] at hi; exact absurd hi (by decide)
  · left
    have h1 : x.getLsbD 63 = true := by
      cases hx : x.getLsbD 63
      · exact absurd (Or.inl hx) hc
      · rfl
    have h2 : m.getLsbD 63 = true := by
      cases hx : m.getLsbD 63
      · exact absurd (Or.inr hx) hc
      · rfl
    refine ⟨h1, ?_⟩
    rw [s63, l63, h2, Bool.not_true, Bool.and_false]
/-! ### Ranges -/
/-- The n lowest bits. -/
def lowW (n : Nat) : W := BitVec.ofNat 64 (2 ^ n - 1)
theorem lowW_bit (n i : Nat) (hi : i < 64) : (lowW n).getLsbD i = decide (i < n) := by
  unfold lowW
  rw [BitVec.getLsbD_ofNat, Nat.testBit_two_pow_sub_one]
  simp [hi]
theorem low_val (n : Nat) (hn : n ≤ 64) : words_Low.f n = some (U (lowW n)) := by
  have key : ∀ n : Fin 65, words_Low.f (n.val : Int) = some (U (lowW n.val)) := by decide +kernel
  exact key ⟨n, by omega⟩
theorem bitLen_facts (d : Nat) (h : d < 2 ^ 64) : d < 2 ^ Lib.bitLen d ∧ (∀ j, j < Lib.bitLen d → 2 ^ j ≤ d) ∧ Lib.bitLen d ≤ 64 := by
  by_cases h0 : d = 0
  · subst h0
    have e : Lib.bitLen 0 = 0 := rfl
    rw [e]
    exact ⟨by decide, fun j hj => by omega, by omega⟩
  · obtain ⟨a, b, c⟩ := Lib.bitLenAux_bounds 64 d h h0
    refine ⟨c, fun j hj => ?_, ?_⟩
    · have hj' : j < Lib.bitLenAux 64 d := hj
      exact Nat.le_trans (Nat.pow_le_pow_right (by decide) (by omega)) b
    · have : Lib.bitLenAux 64 d - 1 < 64 := by
        rcases Nat.lt_or_ge (Lib.bitLenAux 64 d - 1) 64 with h1 | h1
        · exact h1
        · have := Nat.pow_le_pow_right (show 0 < 2 by decide) h1
          omega
      show Lib.bitLenAux 64 d ≤ 64
      omega
theorem shr_same (a b : W) (j : Nat) : (a >>> j = b >>> j) ↔ (a ^^^ b).toNat < 2 ^ j := by
  constructor
  · intro h
    have e : (a ^^^ b) >>> j = 0#64 := by
      apply BitVec.eq_of_getLsbD_eq
      intro i hi
      have := congrArg (fun x => BitVec.getLsbD x i) h
      simp only [BitVec.getLsbD_ushiftRight] at this
      rw [BitVec.getLsbD_ushiftRight, BitVec.getLsbD_xor, this]
      simp
    have e2 := congrArg BitVec.toNat e
    rw [BitVec.toNat_ushiftRight, Nat.shiftRight_eq_div_pow] at e2
    have e3 : (a ^^^ b).toNat / 2 ^ j = 0 := by simpa using e2
    exact (Nat.div_eq_zero_iff_lt (Nat.two_pow_pos j)).1 e3
  · intro h
    apply BitVec.eq_of_getLsbD_eq
    intro i hi
    rw [BitVec.getLsbD_ushiftRight, BitVec.getLsbD_ushiftRight]
    have e : (a ^^^ b).getLsbD (j + i) = false := by
      rw [← BitVec.testBit_toNat]
      exact Nat.testBit_lt_two_pow (Nat.lt_of_lt_of_le h (Nat.pow_le_pow_right (by decide) (by omega)))
    rw [BitVec.getLsbD_xor] at e
    revert e
    cases a.getLsbD (j + i) <;> cases b.getLsbD (j + i) <;> simp
theorem U_pow (j : Nat) (hj : j < 64) : ((2 : Int) ^ j) = U (1#64 <<< j) := by
  unfold U
  rw [BitVec.toNat_shiftLeft, Nat.shiftLeft_eq]
  have : 2 ^ j < 2 ^ 64 := Nat.pow_lt_pow_right (by decide) hj
  have e : (1#64).toNat * 2 ^ j % 2 ^ 64 = 2 ^ j := by
    show 1 * 2 ^ j % 2 ^ 64 = 2 ^ j
    rw [Nat.one_mul, Nat.mod_eq_of_lt this]
  rw [e]
  simp
theorem U_quot (x : W) (j : Nat) (hj : j < 64) : IntKind.u64.wrap (Int.tdiv (U x) (2 ^ j)) = U (x >>> j) := by
  rw [Int.tdiv_eq_ediv_of_nonneg (U_lo x)]
  have h := U_shr x j (by omega) (by omega)
  unfold shr at h
  have e : min (j : Int).toNat IntKind.u64.bits = j := by
    have : IntKind.u64.bits = 64 := rfl
    rw [this]; omega
  rw [e, Int.toNat_natCast] at h
  rw [h, U_wrap]
theorem U_back (x : W) (j : Nat) (hj : j < 64) : IntKind.u64.wrap (U (x >>> j) * 2 ^ j) = U (x &&& ~~~lowW j) := by
  have h := U_shl (x >>> j) j (by omega) (by omega)
  unfold shl at h
  have e : min (j : Int).toNat IntKind.u64.bits = j := by
    have : IntKind.u64.bits = 64 := rfl
    rw [this]; omega
  rw [e, Int.toNat_natCast] at h
  rw [h, U_inj]
  apply BitVec.eq_of_getLsbD_eq
  intro i hi
  rw [BitVec.getLsbD_shiftLeft, BitVec.getLsbD_ushiftRight, BitVec.getLsbD_and, BitVec.getLsbD_not, lowW_bit _ _ hi]
  by_cases hij : i < j
  · simp [hij]
  · simp [hij, hi, show j + (i - j) = i by omega]
theorem lowW_val (j : Nat) (hj : j ≤ 64) : U (lowW j) = 2 ^ j - 1 := by
  unfold U lowW
  rw [BitVec.toNat_ofNat]
  have h1 : 2 ^ j ≤ 2 ^ 64 := Nat.pow_le_pow_right (by decide) hj
  have h2 := Nat.two_pow_pos j
  rw [Nat.mod_eq_of_lt (by omega)]
  have : ((2 ^ j : Nat) : Int) = (2 : Int) ^ j := by simp
  omega
/-- A range's pattern, both ways. -/
def rangeV (a b : W) : W := if b < a then 0#64 else a &&& ~~~lowW (Lib.bitLen (a ^^^ b).toNat)
def rangeM (a b : W) : W := if b < a then BitVec.allOnes 64 else lowW (Lib.bitLen (a ^^^ b).toNat)
theorem range_prog (a b : W) : tnum_Range.f (U a) (U b) = some (U (rangeV a b), U (rangeM a b)) := by
  unfold tnum_Range.f rangeV rangeM
  by_cases h : b < a
  · rw [if_pos (U_lt.2 h), if_pos h, if_pos h]; rfl
  · rw [if_neg (by rw [U_lt]; exact h), if_neg h, if_neg h, U_xor]
    have hl := bitLen_facts (a ^^^ b).toNat (a ^^^ b).isLt
    have e : bits_Len64.f (U (a ^^^ b)) = some ((Lib.bitLen (a ^^^ b).toNat : Nat) : Int) := by
      unfold bits_Len64.f
      rw [if_pos ⟨U_lo _, by have := U_hi (a ^^^ b); omega⟩]
      rfl
    rw [e]
    simp only [Option.bind_some]
    rw [low_val _ hl.2.2]
    simp only [Option.bind_some, t_right]
    rfl
/-! ### What two patterns have in common -/
/-- May bit i be 0, may it be 1? -/
def mz (v m : W) (i : Nat) : Bool := m.getLsbD i || !v.getLsbD i
def mo (v m : W) (i : Nat) : Bool := m.getLsbD i || v.getLsbD i
def clash (va ma vb mb : W) (i : Nat) : Bool := !(mz va ma i && mz vb mb i) && !(mo va ma i && mo vb mb i)
/-- What both have in common: the pattern. -/
def meetV (va ma vb mb : W) : W := lo (lo va ma ||| lo vb mb) (ma &&& mb)
def meets (va ma vb mb : W) : Prop := (lo va ma ^^^ lo vb mb) &&& ~~~(ma ||| mb) = 0#64
theorem meets_iff (va ma vb mb : W) : meets va ma vb mb ↔ ∀ j, j < 64 → clash va ma vb mb j = false := by
  constructor
  · intro h j hj
    have := congrArg (fun b => BitVec.getLsbD b j) h
    simp only [BitVec.getLsbD_and, BitVec.getLsbD_xor, BitVec.getLsbD_not, BitVec.getLsbD_or, lo_bit _ _ hj, hj, decide_true, Bool.true_and, BitVec.getLsbD_zero] at this
    unfold clash mz mo
    revert this
    cases va.getLsbD j <;> cases ma.getLsbD j <;> cases vb.getLsbD j <;> cases mb.getLsbD j <;> simp
  · intro h
    apply BitVec.eq_of_getLsbD_eq
    intro j hj
    have := h j hj
    simp only [BitVec.getLsbD_and, BitVec.getLsbD_xor, BitVec.getLsbD_not, BitVec.getLsbD_or, lo_bit _ _ hj, hj, decide_true, Bool.true_and, BitVec.getLsbD_zero]
    unfold clash mz mo at this
    revert this
    cases va.getLsbD j <;> cases ma.getLsbD j <;> cases vb.getLsbD j <;> cases mb.getLsbD j <;> simp
theorem meet_prog_yes {va ma vb mb : W} (h : meets va ma vb mb) : tnum_Meet.f (U va) (U ma) (U vb) (U mb) = some (U (meetV va ma vb mb), U (ma &&& mb), true) := by
  unfold tnum_Meet.f
  simp only [t_right, Option.bind_some, U_xor, U_or, U_andNot, U_and]
  have e : U ((lo va ma ^^^ lo vb mb) &&& ~~~(ma ||| mb)) = 0 := by rw [U_zero, U_inj]; exact h
  rw [if_pos e]
  rfl
theorem meet_prog_no {va ma vb mb : W} (h : ¬ meets va ma vb mb) : tnum_Meet.f (U va) (U ma) (U vb) (U mb) = some (0, 18446744073709551615, false) := by
  unfold tnum_Meet.f
  simp only [t_right, Option.bind_some, U_xor, U_or, U_andNot, U_and]
  have e : ¬ U ((lo va ma ^^^ lo vb mb) &&& ~~~(ma ||| mb)) = 0 := by rw [U_zero, U_inj]; exact h
  rw [if_neg e]
  rfl
theorem meet_has {va ma vb mb : W} (h : meets va ma vb mb) (x : W) : Has (meetV va ma vb mb) (ma &&& mb) x ↔ Has va ma x ∧ Has vb mb x := by
  have hc := (meets_iff _ _ _ _).1 h
  constructor
  · intro hx
    refine ⟨has_of fun j hj => ?_, has_of fun j hj => ?_⟩ <;>
    · have a1 := has_bit hx hj
      have a2 := hc j hj
      unfold meetV at a1
      unfold clash mz mo at a2
      rw [lo_bit _ _ hj, BitVec.getLsbD_or, BitVec.getLsbD_and, lo_bit _ _ hj, lo_bit _ _ hj] at a1
      revert a1 a2
      cases x.getLsbD j <;> cases va.getLsbD j <;> cases ma.getLsbD j <;> cases vb.getLsbD j <;> cases mb.getLsbD j <;> simp
  · rintro ⟨h1, h2⟩
    refine has_of fun j hj => ?_
    have a1 := has_bit h1 hj
    have a2 := has_bit h2 hj
    unfold meetV
    rw [lo_bit _ _ hj, BitVec.getLsbD_or, BitVec.getLsbD_and, lo_bit _ _ hj, lo_bit _ _ hj]
    revert a1 a2
    cases x.getLsbD j <;> cases va.getLsbD j <;> cases ma.getLsbD j <;> cases vb.getLsbD j <;> cases mb.getLsbD j <;> simp
theorem meets_of_has {va ma vb mb x : W} (h1 : Has va ma x) (h2 : Has vb mb x) : meets va ma vb mb := by
  rw [meets_iff]
  intro j hj
  have a1 := has_bit h1 hj
  have a2 := has_bit h2 hj
  unfold clash mz mo
  revert a1 a2
  cases x.getLsbD j <;> cases va.getLsbD j <;> cases ma.getLsbD j <;> cases vb.getLsbD j <;> cases mb.getLsbD j <;> simp
/-! ### A round of refining: no number is lost, and none comes -/
theorem U_out (z : Int) (h0 : 0 ≤ z) (h1 : z < 18446744073709551616) : ∃ x : W, z = U x := U_of h0 h1
theorem range_has {a b x : W} (h1 : U a ≤ U x) (h2 : U x ≤ U b) : Has (rangeV a b) (rangeM a b) x := by
  unfold U at h1 h2
  have hab : ¬ b < a := by rw [BitVec.lt_def]; omega
  unfold rangeV rangeM
  rw [if_neg hab, if_neg hab]
  have hf := bitLen_facts (a ^^^ b).toNat (a ^^^ b).isLt
  generalize Lib.bitLen (a ^^^ b).toNat = j at hf
  have hs : a >>> j = b >>> j := (shr_same a b j).2 hf.1
  have hx : a >>> j = x >>> j := by
    apply BitVec.eq_of_toNat_eq
    have hs' := congrArg BitVec.toNat hs
    rw [BitVec.toNat_ushiftRight, BitVec.toNat_ushiftRight, Nat.shiftRight_eq_div_pow, Nat.shiftRight_eq_div_pow] at hs' ⊢
    have m1 : a.toNat / 2 ^ j ≤ x.toNat / 2 ^ j := Nat.div_le_div_right (by omega)
    have m2 : x.toNat / 2 ^ j ≤ b.toNat / 2 ^ j := Nat.div_le_div_right (by omega)
    omega
  apply has_of
  intro i hi
  by_cases hij : i < j
  · have d : decide (i < j) = true := decide_eq_true hij
    simp only [BitVec.getLsbD_and, BitVec.getLsbD_not, lowW_bit j i hi, d, hi, decide_true]
    simp
  · have e := congrArg (fun z => BitVec.getLsbD z (i - j)) hx
    simp only [BitVec.getLsbD_ushiftRight] at e
    rw [show j + (i - j) = i by omega] at e
    simp only [BitVec.getLsbD_and, BitVec.getLsbD_not, lowW_bit j i hi, hij, hi, e, decide_true, decide_false]
    simp
theorem mx_le (a b c : Int) : mx a b ≤ c ↔ a ≤ c ∧ b ≤ c := by unfold mx; split <;> omega
theorem le_mn (a b c : Int) : c ≤ mn a b ↔ c ≤ a ∧ c ≤ b := by unfold mn; split <;> omega
theorem mx_rg {a b l h : Int} (h1 : l ≤ a ∧ a < h) (h2 : l ≤ b ∧ b < h) : l ≤ mx a b ∧ mx a b < h := by unfold mx; split <;> omega
theorem mn_rg {a b l h : Int} (h1 : l ≤ a ∧ a < h) (h2 : l ≤ b ∧ b < h) : l ≤ mn a b ∧ mn a b < h := by unfold mn; split <;> omega
theorem U_rg (x : W) : 0 ≤ U x ∧ U x < 18446744073709551616 := ⟨U_lo x, U_hi x⟩
theorem wrap64_rg (z : Int) : -9223372036854775808 ≤ wrap64 z ∧ wrap64 z < 9223372036854775808 := by unfold wrap64; omega
theorem wrapu_rg (z : Int) : 0 ≤ IntKind.u64.wrap z ∧ IntKind.u64.wrap z < 18446744073709551616 := by rw [IntKind.wrap_u64]; omega
theorem top_num (a b : Int) (ha : 0 ≤ a ∧ a < 18446744073709551616) (hb : 0 ≤ b ∧ b < 18446744073709551616) : ((Go.bits .and .u64 a 9223372036854775808 == Go.bits .and .u64 b 9223372036854775808) = true) ↔ (9223372036854775808 ≤ a ↔ 9223372036854775808 ≤ b) := by
  obtain ⟨x, rfl⟩ := U_out a ha.1 ha.2
  obtain ⟨y, rfl⟩ := U_out b hb.1 hb.2
  rw [topW_U, U_and, U_and, top_and, top63, top63, ← topW_U]
  constructor
  · intro h; simpa using h
  · intro h; simpa using h
theorem rB_rg {A2 A3 A4 A5 : Int} (h : RG A2 A3 A4 A5) : RG A2 A3 (num_rB4 A2 A3 A4) (num_rB5 A2 A3 A5) := by
  obtain ⟨h1, h2, h3, h4, h5, h6, h7, h8⟩ := h
  have e1 : -9223372036854775808 ≤ num_rB4 A2 A3 A4 ∧ num_rB4 A2 A3 A4 < 9223372036854775808 := by
    unfold num_rB4; split
    · exact mx_rg ⟨h5, h6⟩ (wrap64_rg _)
    · exact ⟨h5, h6⟩
  have e2 : -9223372036854775808 ≤ num_rB5 A2 A3 A5 ∧ num_rB5 A2 A3 A5 < 9223372036854775808 := by
    unfold num_rB5; split
    · exact mn_rg ⟨h7, h8⟩ (wrap64_rg _)
    · exact ⟨h7, h8⟩
  exact ⟨h1, h2, h3, h4, e1.1, e1.2, e2.1, e2.2⟩
theorem rB_iff {v m x : W} {A2 A3 A4 A5 : Int} (h : RG A2 A3 A4 A5) : NH v m A2 A3 (num_rB4 A2 A3 A4) (num_rB5 A2 A3 A5) x ↔ NH v m A2 A3 A4 A5 x := by
  obtain ⟨h1, h2, h3, h4, h5, h6, h7, h8⟩ := h
  have ht := top_num A2 A3 ⟨h1, h2⟩ ⟨h3, h4⟩
  have r1 := U_lo x
  have r2 := U_hi x
  unfold NH num_rB4 num_rB5
  by_cases c : (Go.bits .and .u64 A2 9223372036854775808 == Go.bits .and .u64 A3 9223372036854775808) = true
  · rw [if_pos c, if_pos c, mx_le, le_mn]
    have c' := ht.1 c
    have key : A2 ≤ U x → U x ≤ A3 → wrap64 A2 ≤ wrap64 (U x) ∧ wrap64 (U x) ≤ wrap64 A3 := by
      intro k1 k2
      unfold wrap64
      omega
    constructor
    · rintro ⟨k0, k1, k2, k3, k4⟩; exact ⟨k0, k1, k2, k3.1, k4.1⟩
    · rintro ⟨k0, k1, k2, k3, k4⟩; exact ⟨k0, k1, k2, ⟨k3, (key k1 k2).1⟩, ⟨k4, (key k1 k2).2⟩⟩
  · rw [if_neg c, if_neg c]
theorem rC_rg {A2 A3 A4 A5 : Int} (h : RG A2 A3 A4 A5) : RG (num_rC2 A2 A4 A5) (num_rC3 A3 A4 A5) A4 A5 := by
  obtain ⟨h1, h2, h3, h4, h5, h6, h7, h8⟩ := h
  have e1 : 0 ≤ num_rC2 A2 A4 A5 ∧ num_rC2 A2 A4 A5 < 18446744073709551616 := by
    unfold num_rC2; split
    · exact mx_rg ⟨h1, h2⟩ (wrapu_rg _)
    · exact ⟨h1, h2⟩
  have e2 : 0 ≤ num_rC3 A3 A4 A5 ∧ num_rC3 A3 A4 A5 < 18446744073709551616 := by
    unfold num_rC3; split
    · exact mn_rg ⟨h3, h4⟩ (wrapu_rg _)
    · exact ⟨h3, h4⟩
  exact ⟨e1.1, e1.2, e2.1, e2.2, h5, h6, h7, h8⟩
theorem rC_iff {v m x : W} {A2 A3 A4 A5 : Int} (h : RG A2 A3 A4 A5) : NH v m (num_rC2 A2 A4 A5) (num_rC3 A3 A4 A5) A4 A5 x ↔ NH v m A2 A3 A4 A5 x := by
  obtain ⟨h1, h2, h3, h4, h5, h6, h7, h8⟩ := h
  have r1 := U_lo x
  have r2 := U_hi x
  unfold NH num_rC2 num_rC3
  by_cases c : (decide (A4 < 0) == decide (A5 < 0)) = true
  · rw [if_pos c, if_pos c, mx_le, le_mn]
    have c' : (A4 < 0 ↔ A5 < 0) := by simpa using c
    have key : A4 ≤ wrap64 (U x) → wrap64 (U x) ≤ A5 → IntKind.u64.wrap A4 ≤ U x ∧ U x ≤ IntKind.u64.wrap A5 := by
      intro k1 k2
      rw [IntKind.wrap_u64, IntKind.wrap_u64]
      unfold wrap64 at k1 k2
      omega
    constructor
    · rintro ⟨k0, k1, k2, k3, k4⟩; exact ⟨k0, k1.1, k2.1, k3, k4⟩
    · rintro ⟨k0, k1, k2, k3, k4⟩; exact ⟨k0, ⟨k1, (key k3 k4).1⟩, ⟨k2, (key k3 k4).2⟩, k3, k4⟩
  · rw [if_neg c, if_neg c]
/-- What is told at the end of a round, or of refining: all that was had is had. -/
structure Told (v m : W) (a2 a3 a4 a5 : Int) (ok : Bool) (v' m' : W) (c2 c3 c4 c5 : Int) : Prop where
  yes : ok = true → RG c2 c3 c4 c5 ∧ ∀ x, NH v' m' c2 c3 c4 c5 x ↔ NH v m a2 a3 a4 a5 x
  no : ok = false → ∀ x, ¬ NH v m a2 a3 a4 a5 x
theorem rEnd_told (v m : W) {A2 A3 A4 A5 : Int} (h : RG A2 A3 A4 A5) : ∃ (ok : Bool) (v' m' : W) (c2 c3 c4 c5 : Int), num_rEnd (U v) (U m) A2 A3 A4 A5 = some (ok, U v', U m', c2, c3, c4, c5) ∧ Told v m A2 A3 A4 A5 ok v' m' c2 c3 c4 c5 := by
  have hr := h
  obtain ⟨h1, h2, h3, h4, h5, h6, h7, h8⟩ := h
  unfold num_rEnd
  by_cases c : A3 < A2
  · exact ⟨false, v, m, A2, A3, A4, A5, if_pos c, fun e => absurd e (by decide), fun _ x hx => by have := hx.2.1; have := hx.2.2.1; omega⟩
  · rw [if_neg c]
    by_cases d : A5 < A4
    · exact ⟨false, v, m, A2, A3, A4, A5, if_pos d, fun e => absurd e (by decide), fun _ x hx => by have := hx.2.2.2.1; have := hx.2.2.2.2; omega⟩
    · rw [if_neg d]
      obtain ⟨a, rfl⟩ := U_out A2 h1 h2
      obtain ⟨b, rfl⟩ := U_out A3 h3 h4
      rw [range_prog, Option.bind_some]
      by_cases hm : meets v m (rangeV a b) (rangeM a b)
      · rw [meet_prog_yes hm, Option.bind_some]
        refine ⟨true, _, _, _, _, _, _, rfl, fun _ => ⟨hr, fun x => ?_⟩, fun e => absurd e (by decide)⟩
        constructor
        · rintro ⟨k0, k1⟩; exact ⟨((meet_has hm x).1 k0).1, k1⟩
        · rintro ⟨k0, k1, k2, k3⟩; exact ⟨(meet_has hm x).2 ⟨k0, range_has k1 k2⟩, k1, k2, k3⟩
      · rw [meet_prog_no hm, Option.bind_some]
        refine ⟨false, 0#64, BitVec.allOnes 64, U a, U b, A4, A5, rfl, fun e => absurd e (by decide), fun _ x hx => ?_⟩
        exact hm (meets_of_has hx.1 (range_has hx.2.1 hx.2.2.1))
theorem round_told (v m : W) {a2 a3 a4 a5 : Int} (h : RG a2 a3 a4 a5) : ∃ (ok : Bool) (v' m' : W) (c2 c3 c4 c5 : Int), num_known_round.f (U v) (U m) a2 a3 a4 a5 = some (ok, U v', U m', c2, c3, c4, c5) ∧ Told v m a2 a3 a4 a5 ok v' m' c2 c3 c4 c5 := by
  unfold num_known_round.f num_rMid
  rw [topW_U]
  simp only [U_andNot, U_and, U_or]
  simp only [show v &&& ~~~m = lo v m from rfl]
  simp only [show lo v m ||| m &&& topW = slo v m from rfl, show lo v m ||| m &&& ~~~topW = shi v m from rfl, show lo v m ||| m = hi v m from rfl]
  obtain ⟨h1, h2, h3, h4, h5, h6, h7, h8⟩ := h
  have g2 := mx_rg ⟨h1, h2⟩ (U_rg (lo v m))
  have g3 := mn_rg ⟨h3, h4⟩ (U_rg (hi v m))
  have g4 := mx_rg ⟨h5, h6⟩ (wrap64_rg (U (slo v m)))
  have g5 := mn_rg ⟨h7, h8⟩ (wrap64_rg (U (shi v m)))
  have hA : ∀ x, NH v m (mx a2 (U (lo v m))) (mn a3 (U (hi v m))) (mx a4 (wrap64 (U (slo v m)))) (mn a5 (wrap64 (U (shi v m)))) x ↔ NH v m a2 a3 a4 a5 x := by
    intro x
    unfold NH
    rw [mx_le, le_mn, mx_le, le_mn]
    constructor
    · rintro ⟨k0, k1, k2, k3, k4⟩; exact ⟨k0, k1.1, k2.1, k3.1, k4.1⟩
    · rintro ⟨k0, k1, k2, k3, k4⟩; exact ⟨k0, ⟨k1, In.leU (in_lo k0)⟩, ⟨k2, In.leU (in_hi k0)⟩, ⟨k3, slo_le k0⟩, ⟨k4, shi_ge k0⟩⟩
  have gA : RG _ _ _ _ := ⟨g2.1, g2.2, g3.1, g3.2, g4.1, g4.2, g5.1, g5.2⟩
  revert hA gA
  clear g2 g3 g4 g5
  generalize mx a2 (U (lo v m)) = A2
  generalize mn a3 (U (hi v m)) = A3
  generalize mx a4 (wrap64 (U (slo v m))) = A4
  generalize mn a5 (wrap64 (U (shi v m))) = A5
  intro hA gA
  have gB := rB_rg gA
  have gC := rC_rg gB
  obtain ⟨ok, v', m', c2, c3, c4, c5, e, t⟩ := rEnd_told v m gC
  refine ⟨ok, v', m', c2, c3, c4, c5, e, fun o => ⟨(t.yes o).1, fun x => ?_⟩, fun o x hx => ?_⟩
  · rw [(t.yes o).2 x, rC_iff gB, rB_iff gA, hA x]
  · exact t.no o x ((rC_iff gB).2 ((rB_iff gA).2 ((hA x).2 hx)))
theorem none_val : num_none = some (U 0#64, U (BitVec.allOnes 64), 0, 18446744073709551615, -9223372036854775808, 9223372036854775807, false) := rfl
theorem all_has (x : W) : NH 0#64 (BitVec.allOnes 64) 0 18446744073709551615 (-9223372036854775808) 9223372036854775807 x := by
  have r1 := U_lo x
  have r2 := U_hi x
  refine ⟨has_of fun i hi => ?_, by omega, by omega, (wrap64_rg _).1, by have := (wrap64_rg (U x)).2; omega⟩
  rw [BitVec.getLsbD_allOnes, decide_eq_true hi]
  simp
theorem refine_told (v m : W) {a2 a3 a4 a5 : Int} (h : RG a2 a3 a4 a5) : ∃ (ok : Bool) (v' m' : W) (c2 c3 c4 c5 : Int), num_Refine.f (U v) (U m) a2 a3 a4 a5 = some (U v', U m', c2, c3, c4, c5, ok) ∧ Told v m a2 a3 a4 a5 ok v' m' c2 c3 c4 c5 ∧ (ok = false → ∀ x, NH v' m' c2 c3 c4 c5 x) := by
  unfold num_Refine.f
  obtain ⟨ok, v1, m1, b2, b3, b4, b5, e, t⟩ := round_told v m h
  rw [num_Refine.l0, if_pos (by decide), e, Option.bind_some]
  cases ok with
  | false =>
    rw [if_neg Bool.false_ne_true, none_val]
    exact ⟨false, _, _, _, _, _, _, rfl, ⟨fun e => absurd e (by decide), fun _ => t.no rfl⟩, fun _ => all_has⟩
  | true =>
    rw [if_pos rfl]
    obtain ⟨ok2, v2, m2, d2, d3, d4, d5, e2, t2⟩ := round_told v1 m1 (t.yes rfl).1
    show ∃ _, _
    rw [show wrap64 (0 + 1) = 1 by unfold wrap64; omega, num_Refine.l0, if_pos (by decide)]
    simp only []
    rw [e2, Option.bind_some]
    cases ok2 with
    | false =>
      rw [if_neg Bool.false_ne_true, none_val]
      refine ⟨false, _, _, _, _, _, _, rfl, ⟨fun e => absurd e (by decide), fun _ x hx => ?_⟩, fun _ => all_has⟩
      exact t2.no rfl x (((t.yes rfl).2 x).2 hx)
    | true =>
      rw [if_pos rfl, show wrap64 (1 + 1) = 2 by unfold wrap64; omega, num_Refine.l0, if_neg (by decide)]
      refine ⟨true, _, _, _, _, _, _, rfl, ⟨fun _ => ⟨(t2.yes rfl).1, fun x => ?_⟩, fun e => absurd e (by decide)⟩, fun e => absurd e (by decide)⟩
      rw [(t2.yes rfl).2 x, (t.yes rfl).2 x]
theorem num_alive : halberdlaw07_alive.f 201 = some true := by kernel_rfl
theorem hasNH (v m x : W) (a2 a3 a4 a5 : Int) : num_Has.f (U v) (U m) a2 a3 a4 a5 (U x) = some (decide (NH v m a2 a3 a4 a5 x)) := has07 v m x a2 a3 a4 a5
theorem meet_told (v m w n : W) {a2 a3 a4 a5 b2 b3 b4 b5 : Int} (h : RG a2 a3 a4 a5) (g : RG b2 b3 b4 b5) : ∃ (ok : Bool) (v' m' : W) (c2 c3 c4 c5 : Int), num_Meet.f (U v) (U m) a2 a3 a4 a5 (U w) (U n) b2 b3 b4 b5 = some (U v', U m', c2, c3, c4, c5, ok) ∧ (ok = true → ∀ x, NH v' m' c2 c3 c4 c5 x ↔ (NH v m a2 a3 a4 a5 x ∧ NH w n b2 b3 b4 b5 x)) ∧ (ok = false → ∀ x, ¬ (NH v m a2 a3 a4 a5 x ∧ NH w n b2 b3 b4 b5 x)) := by
  unfold num_Meet.f
  by_cases hm : meets v m w n
  · rw [meet_prog_yes hm, Option.bind_some, if_pos rfl]
    obtain ⟨h1, h2, h3, h4, h5, h6, h7, h8⟩ := h
    obtain ⟨g1, g2, g3, g4, g5, g6, g7, g8⟩ := g
    have k2 := mx_rg ⟨h1, h2⟩ ⟨g1, g2⟩
    have k3 := mn_rg ⟨h3, h4⟩ ⟨g3, g4⟩
    have k4 := mx_rg ⟨h5, h6⟩ ⟨g5, g6⟩
    have k5 := mn_rg ⟨h7, h8⟩ ⟨g7, g8⟩
    obtain ⟨ok, v', m', c2, c3, c4, c5, e, t, _⟩ := refine_told (meetV v m w n) (m &&& n) (⟨k2.1, k2.2, k3.1, k3.2, k4.1, k4.2, k5.1, k5.2⟩ : RG (mx a2 b2) (mn a3 b3) (mx a4 b4) (mn a5 b5))
    have key : ∀ x, NH (meetV v m w n) (m &&& n) (mx a2 b2) (mn a3 b3) (mx a4 b4) (mn a5 b5) x ↔ (NH v m a2 a3 a4 a5 x ∧ NH w n b2 b3 b4 b5 x) := by
      intro x
      unfold NH
      rw [meet_has hm, mx_le, le_mn, mx_le, le_mn]
      constructor
      · rintro ⟨⟨p1, p2⟩, ⟨p3, p4⟩, ⟨p5, p6⟩, ⟨p7, p8⟩, p9, p10⟩; exact ⟨⟨p1, p3, p5, p7, p9⟩, ⟨p2, p4, p6, p8, p10⟩⟩
      · rintro ⟨⟨p1, p3, p5, p7, p9⟩, ⟨p2, p4, p6, p8, p10⟩⟩; exact ⟨⟨p1, p2⟩, ⟨p3, p4⟩, ⟨p5, p6⟩, ⟨p7, p8⟩, p9, p10⟩
    exact ⟨ok, v', m', c2, c3, c4, c5, e, fun o x => ((t.yes o).2 x).trans (key x), fun o x hx => t.no o x ((key x).2 hx)⟩
  · rw [meet_prog_no hm, Option.bind_some, if_neg Bool.false_ne_true, none_val]
    exact ⟨false, _, _, _, _, _, _, rfl, fun e => absurd e (by decide), fun _ x hx => hm (meets_of_has hx.1.1 hx.2.1)⟩
theorem orAll_told (v m : W) {a2 a3 a4 a5 : Int} (h : RG a2 a3 a4 a5) : ∃ (v' m' : W) (c2 c3 c4 c5 : Int), num_orAll.f (U v) (U m) a2 a3 a4 a5 = some (U v', U m', c2, c3, c4, c5) ∧ ∀ x, NH v m a2 a3 a4 a5 x → NH v' m' c2 c3 c4 c5 x := by
  unfold num_orAll.f
  obtain ⟨ok, v', m', c2, c3, c4, c5, e, t, u⟩ := refine_told v m h
  rw [e, Option.bind_some]
  refine ⟨v', m', c2, c3, c4, c5, rfl, fun x hx => ?_⟩
  cases ok with
  | true => exact ((t.yes rfl).2 x).2 hx
  | false => exact u rfl x
/-- What is cut to n bytes, where there are so many. -/
theorem cut_some (n : Int) (c : W) (j : Nat) (hj : c.toNat = 2 ^ j - 1) (h8 : n ≠ 8) (hs : words_IsSize.f n = some true) (hz : ∀ x, words_Zext.f (U x) n = some (U (x &&& c))) (hl : words_Low.f (wrap64 (8 * n)) = some (U c))
    (v m : W) {a2 a3 a4 a5 : Int} (h : RG a2 a3 a4 a5) : ∃ (v' m' : W) (c2 c3 c4 c5 : Int), num_Cut.f 200 (U v) (U m) a2 a3 a4 a5 n = some (U v', U m', c2, c3, c4, c5) ∧ ∀ x, NH v m a2 a3 a4 a5 x → NH v' m' c2 c3 c4 c5 (x &&& c) := by
  have hcut : tnum_Cut.f (U v) (U m) n = some (U (lo v m &&& c), U (m &&& c)) := by
    unfold tnum_Cut.f
    rw [t_right, Option.bind_some, hz, Option.bind_some, hz, Option.bind_some]
  have hand : ∀ x : W, U (x &&& c) ≤ U c := fun x => by
    unfold U
    rw [BitVec.toNat_and]
    have := @Nat.and_le_right x.toNat c.toNat
    omega
  have hsame : ∀ x : W, U x ≤ U c → x &&& c = x := fun x hx => by
    apply BitVec.eq_of_toNat_eq
    rw [BitVec.toNat_and, hj, Nat.and_two_pow_sub_one_eq_mod]
    unfold U at hx
    have : 0 < 2 ^ j := Nat.two_pow_pos j
    exact Nat.mod_eq_of_lt (by omega)
  have hS : ∀ x : W, (-9223372036854775808 : Int) ≤ wrap64 (U x) ∧ wrap64 (U x) ≤ 9223372036854775807 := fun x => by
    have := wrap64_rg (U x); omega
  unfold num_Cut.f
  rw [if_neg h8, hs, Option.bind_some, show (!true) = false from rfl, num_Cut.j0, if_neg Bool.false_ne_true]
  rw [show num_All.f = some (0, 18446744073709551615, 0, 18446744073709551615, -9223372036854775808, 9223372036854775807) from rfl, Option.bind_some, hcut, Option.bind_some, hl, Option.bind_some]
  obtain ⟨h1, h2, h3, h4, h5, h6, h7, h8⟩ := h
  obtain ⟨b, rfl⟩ := U_out a3 h3 h4
  have hLow : num_Low.f (U v) (U m) a2 (U b) a4 a5 n = some (U b == U (b &&& c)) := by
    unfold num_Low.f
    rw [hz, Option.bind_some]
  rw [hLow, Option.bind_some]
  by_cases hb : (U b == U (b &&& c)) = true
  · rw [if_pos hb]
    obtain ⟨v', m', c2, c3, c4, c5, e, t⟩ := orAll_told (lo v m &&& c) (m &&& c) (⟨h1, h2, h3, h4, by decide, by decide, by decide, by decide⟩ : RG a2 (U b) (-9223372036854775808) 9223372036854775807)
    rw [e, Option.bind_some]
    refine ⟨v', m', c2, c3, c4, c5, rfl, fun x hx => t _ ?_⟩
    have hle : U b ≤ U c := by
      have := beq_iff_eq.1 hb
      rw [this]; exact hand b
    have hxc : x &&& c = x := hsame x (Int.le_trans hx.2.2.1 hle)
    refine ⟨cut_has hx.1, ?_⟩
    rw [hxc]
    exact ⟨hx.2.1, hx.2.2.1, hS x⟩
  · rw [if_neg hb]
    have hcr := U_rg c
    obtain ⟨v', m', c2, c3, c4, c5, e, t⟩ := orAll_told (lo v m &&& c) (m &&& c) (⟨by decide, by decide, hcr.1, hcr.2, by decide, by decide, by decide, by decide⟩ : RG 0 (U c) (-9223372036854775808) 9223372036854775807)
    rw [e, Option.bind_some]
    refine ⟨v', m', c2, c3, c4, c5, rfl, fun x hx => t _ ?_⟩
    exact ⟨cut_has hx.1, U_lo _, hand x, hS _⟩
theorem ns_zext1 (x : Int) : words_Zext.f x 1 = some (bits .and .u64 x 255) := by kernel_rfl
theorem ns_zext2 (x : Int) : words_Zext.f x 2 = some (bits .and .u64 x 65535) := by kernel_rfl
theorem ns_zext4 (x : Int) : words_Zext.f x 4 = some (bits .and .u64 x 4294967295) := by kernel_rfl
theorem ns_rz1 (x : Int) : halberdref01_Zext.f 200 x 1 = some (Int.tmod x 256) := by kernel_rfl
theorem ns_rz2 (x : Int) : halberdref01_Zext.f 200 x 2 = some (Int.tmod x 65536) := by kernel_rfl
theorem ns_rz4 (x : Int) : halberdref01_Zext.f 200 x 4 = some (Int.tmod x 4294967296) := by kernel_rfl
theorem ns_rz8 (x : Int) : halberdref01_Zext.f 200 x 8 = some x := by kernel_rfl
theorem cut_same (v m : W) (a2 a3 a4 a5 n : Int) (b : Bool) (hb : b = true) : num_Cut.j0 200 n b (U v) (U m) a2 a3 a4 a5 = some (U v, U m, a2, a3, a4, a5) := by
  subst hb
  rw [num_Cut.j0, if_pos rfl]
theorem ns_mod (x : W) (n : Nat) (c : W) (hn : n ≤ 64) (hc : U c = 2 ^ n - 1) : Int.tmod (U x) (2 ^ n) = U (x &&& c) := by
  rw [← U_and, Int.tmod_eq_emod_of_nonneg (U_lo x), and_mask (U x) n (U c) hc hn (U_lo x) (U_hi x)]
/-- What is cut has the low bytes of what was had. -/
theorem cut_told (n : Int) (v m : W) {a2 a3 a4 a5 : Int} (h : RG a2 a3 a4 a5) : ∃ (v' m' : W) (c2 c3 c4 c5 : Int), num_Cut.f 200 (U v) (U m) a2 a3 a4 a5 n = some (U v', U m', c2, c3, c4, c5) ∧ ∀ x, NH v m a2 a3 a4 a5 x → ∃ y : W, halberdref01_Zext.f 200 (U x) n = some (U y) ∧ NH v' m' c2 c3 c4 c5 y := by
  by_cases e8 : n = 8
  · subst e8
    exact ⟨v, m, a2, a3, a4, a5, by unfold num_Cut.f; rw [if_pos rfl]; exact cut_same _ _ _ _ _ _ _ _ rfl, fun x hx => ⟨x, ns_rz8 _, hx⟩⟩
  by_cases e1 : n = 1
  · subst e1
    obtain ⟨v', m', c2, c3, c4, c5, e, t⟩ := cut_some 1 255#64 8 rfl (by decide) rfl (fun x => by rw [ns_zext1, show (255 : Int) = U 255#64 from rfl, U_and]) (by kernel_rfl) v m h
    exact ⟨v', m', c2, c3, c4, c5, e, fun x hx => ⟨x &&& 255#64, by rw [ns_rz1]; exact congrArg some (ns_mod x 8 255#64 (by decide) rfl), t x hx⟩⟩
  by_cases e2 : n = 2
  · subst e2
    obtain ⟨v', m', c2, c3, c4, c5, e, t⟩ := cut_some 2 65535#64 16 rfl (by decide) rfl (fun x => by rw [ns_zext2, show (65535 : Int) = U 65535#64 from rfl, U_and]) (by kernel_rfl) v m h
    exact ⟨v', m', c2, c3, c4, c5, e, fun x hx => ⟨x &&& 65535#64, by rw [ns_rz2]; exact congrArg some (ns_mod x 16 65535#64 (by decide) rfl), t x hx⟩⟩
  by_cases e4 : n = 4
  · subst e4
    obtain ⟨v', m', c2, c3, c4, c5, e, t⟩ := cut_some 4 4294967295#64 32 rfl (by decide) rfl (fun x => by rw [ns_zext4, show (4294967295 : Int) = U 4294967295#64 from rfl, U_and]) (by kernel_rfl) v m h
    exact ⟨v', m', c2, c3, c4, c5, e, fun x hx => ⟨x &&& 4294967295#64, by rw [ns_rz4]; exact congrArg some (ns_mod x 32 4294967295#64 (by decide) rfl), t x hx⟩⟩
  have hf : (n == 8) = false := beq_eq_false_iff_ne.2 e8
  refine ⟨v, m, a2, a3, a4, a5, ?_, fun x hx => ⟨x, ?_, hx⟩⟩
  · unfold num_Cut.f words_IsSize.f
    rw [if_neg e8, if_neg e1, if_neg e2, if_neg e4, hf, Option.bind_some]
    exact cut_same _ _ _ _ _ _ _ _ rfl
  · unfold halberdref01_Zext.f halberdref01_Size.f
    rw [if_neg e1, if_neg e2, if_neg e4, hf, Option.bind_some, if_neg Bool.false_ne_true]
theorem rg_of {a2 a3 a4 a5 : Int} (h : (Lit.int .u64 a2).wf = true ∧ (Lit.int .u64 a3).wf = true ∧ (Lit.int .i64 a4).wf = true ∧ (Lit.int .i64 a5).wf = true) : RG a2 a3 a4 a5 :=
  ⟨(u64_of h.1).1, (u64_of h.1).2, (u64_of h.2.1).1, (u64_of h.2.1).2, (i64_of h.2.2.1).1, (i64_of h.2.2.1).2, (i64_of h.2.2.2).1, (i64_of h.2.2.2).2⟩
theorem rest1 (v m x : W) {a2 a3 a4 a5 b2 b3 b4 b5 c2 c3 c4 c5 : Int} (w n v' m' : W) (is : Bool) (hx : NH v m a2 a3 a4 a5 x) (hy : is = true → ∀ x, NH v' m' c2 c3 c4 c5 x ↔ (NH v m a2 a3 a4 a5 x ∧ NH w n b2 b3 b4 b5 x)) (hn : is = false → ∀ x, ¬ (NH v m a2 a3 a4 a5 x ∧ NH w n b2 b3 b4 b5 x)) :
    halberdlaw07_NumSound.j1 200 (U x) is false (U w) (U n) b2 b3 b4 b5 (U v') (U m') c2 c3 c4 c5 = some true := by
  rw [halberdlaw07_NumSound.j1]
  refine no_ (by decide) ?_
  refine have_ (hasNH w n x b2 b3 b4 b5) ?_
  by_cases hb : NH w n b2 b3 b4 b5 x
  · refine yes_ (decide_eq_true hb) ?_
    cases is with
    | false => exact absurd ⟨hx, hb⟩ (hn rfl x)
    | true =>
      refine yes_ rfl ?_
      refine have_ (hasNH v' m' x c2 c3 c4 c5) ?_
      rw [decide_eq_true ((hy rfl x).2 ⟨hx, hb⟩)]
  · exact no_ (by rw [decide_eq_false hb]; decide) rfl
theorem rest0 (v m x : W) (n0 : Int) {a2 a3 a4 a5 b2 b3 b4 b5 c2 c3 c4 c5 : Int} (ha : RG a2 a3 a4 a5) (w n v' m' : W) (ok is : Bool) (hok : ok = false → ∀ x, ¬ NH v m a2 a3 a4 a5 x) (hy : is = true → ∀ x, NH v' m' c2 c3 c4 c5 x ↔ (NH v m a2 a3 a4 a5 x ∧ NH w n b2 b3 b4 b5 x)) (hn : is = false → ∀ x, ¬ (NH v m a2 a3 a4 a5 x ∧ NH w n b2 b3 b4 b5 x)) :
    halberdlaw07_NumSound.j0 201 (U x) n0 ok is false (U v) (U m) a2 a3 a4 a5 (U w) (U n) b2 b3 b4 b5 (U v') (U m') c2 c3 c4 c5 = some true := by
  rw [halberdlaw07_NumSound.j0]
  refine no_ (by decide) ?_
  refine have_ (hasNH v m x a2 a3 a4 a5) ?_
  by_cases hx : NH v m a2 a3 a4 a5 x
  · refine yes_ (decide_eq_true hx) ?_
    cases ok with
    | false => exact absurd hx (hok rfl x)
    | true =>
      refine yes_ rfl ?_
      obtain ⟨z, y, d2, d3, d4, d5, e, t⟩ := cut_told n0 v m ha
      obtain ⟨u, e2, hu⟩ := t x hx
      refine have_ e ?_
      refine have_ e2 ?_
      refine have_ (hasNH z y u d2 d3 d4 d5) ?_
      rw [decide_eq_true hu]
      exact rest1 v m x w n v' m' is hx hy hn
  · exact no_ (by rw [decide_eq_false hx]; decide) rfl
theorem NumSound : halberdlaw07_NumSound.Pure := by
  intro v m a2 a3 a4 a5 w n b2 b3 b4 b5 x n0 h1 h2 h3 h4
  have ha := rg_of h1.2
  have hb := rg_of h2.2
  obtain ⟨v, rfl⟩ := U_wf h1.1.1
  obtain ⟨m, rfl⟩ := U_wf h1.1.2
  obtain ⟨w, rfl⟩ := U_wf h2.1.1
  obtain ⟨n, rfl⟩ := U_wf h2.1.2
  obtain ⟨x, rfl⟩ := U_wf h3
  refine ⟨201, ?_⟩
  unfold halberdlaw07_NumSound.f
  refine ask_ num_alive ?_
  obtain ⟨ok, v1, m1, c2, c3, c4, c5, e, t, _⟩ := refine_told v m ha
  refine have_ e ?_
  obtain ⟨is, v2, m2, d2, d3, d4, d5, e2, y, no⟩ := meet_told v m w n ha hb
  refine have_ e2 ?_
  cases ok with
  | false =>
    refine no_ Bool.false_ne_true ?_
    exact rest0 v m x n0 ha w n v2 m2 false is t.no y no
  | true =>
    refine yes_ rfl ?_
    refine have_ (hasNH v1 m1 x c2 c3 c4 c5) ?_
    refine have_ (hasNH v m x a2 a3 a4 a5) ?_
    have hd : decide (NH v1 m1 c2 c3 c4 c5 x) = decide (NH v m a2 a3 a4 a5 x) := decide_eq_decide.2 ((t.yes rfl).2 x)
    rw [hd, bne_self_eq_false]
    exact rest0 v m x n0 ha w n v2 m2 true is (fun e => absurd e (by decide)) y no

end Go.Proofs.Ytdojdjafleaedaa.Pure
