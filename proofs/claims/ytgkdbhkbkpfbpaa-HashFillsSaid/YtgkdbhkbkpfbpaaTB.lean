/- Patterns of bits (a value, a mask) over vectors of 64 bits: which numbers they have, and that sums, differences and the rest keep them; no conditions. -/
import Derived.Test.YtgkdbhkbkpfbpaaHBV
set_option linter.unusedVariables false
set_option linter.unusedSimpArgs false
namespace Go.Proofs.Ytgkdbhkbkpfbpaa.TB

abbrev W := BitVec 64
/-- Bit by bit: what a has b has. -/
def In (a b : W) : Prop := ∀ i, a.getLsbD i = true → b.getLsbD i = true
theorem In.mod_le {a b : W} (h : In a b) (i : Nat) : a.toNat % 2 ^ i ≤ b.toNat % 2 ^ i := by
  have e : a = a &&& b := by
    apply BitVec.eq_of_getLsbD_eq
    intro j hj
    rw [BitVec.getLsbD_and]
    have := h j
    cases ha : a.getLsbD j
    · rfl
    · rw [this ha]; rfl
  have e2 : a.toNat % 2 ^ i = (a.toNat % 2 ^ i) &&& (b.toNat % 2 ^ i) := by
    conv => lhs; rw [e, BitVec.toNat_and]
    rw [Nat.and_mod_two_pow]
  rw [e2]
  exact Nat.and_le_right
theorem In.not {a b : W} (h : In a b) : In (~~~b) (~~~a) := by
  intro i hi
  rw [BitVec.getLsbD_not] at hi ⊢
  have := h i
  cases ha : a.getLsbD i
  · cases hb : b.getLsbD i <;> simp_all
  · rw [this ha] at hi; simp at hi
theorem carry_mono {x y x' y' : W} (h1 : In x x') (h2 : In y y') (i : Nat) (c : Bool) (h : BitVec.carry i x y c = true) : BitVec.carry i x' y' c = true := by
  unfold BitVec.carry at h ⊢
  have a1 := h1.mod_le i
  have a2 := h2.mod_le i
  have := of_decide_eq_true h
  exact decide_eq_true (by omega)
theorem sub_bit (x y : W) {i : Nat} (hi : i < 64) : (x - y).getLsbD i = (x.getLsbD i ^^ ((!y.getLsbD i) ^^ BitVec.carry i x (~~~y) true)) := by
  have e : x - y = x + ~~~y + BitVec.setWidth 64 (BitVec.ofBool true) := by
    rw [BitVec.sub_eq_add_neg, BitVec.neg_eq_not_add, ← BitVec.add_assoc]
    rfl
  rw [e, BitVec.getLsbD_add_add_bool hi, BitVec.getLsbD_not]
  simp [hi]

/-- The numbers that a pattern has. -/
def Has (v m x : W) : Prop := x &&& ~~~m = v &&& ~~~m
theorem has_bit {v m x : W} (h : Has v m x) {i : Nat} (hi : i < 64) : (x.getLsbD i && !m.getLsbD i) = (v.getLsbD i && !m.getLsbD i) := by
  have := congrArg (fun b => BitVec.getLsbD b i) h
  simpa [hi] using this
theorem has_of {v m x : W} (h : ∀ i, i < 64 → (x.getLsbD i && !m.getLsbD i) = (v.getLsbD i && !m.getLsbD i)) : Has v m x := by
  apply BitVec.eq_of_getLsbD_eq
  intro i hi
  simpa [hi] using h i hi
/-- The least number of a pattern, and the greatest. -/
def lo (v m : W) : W := v &&& ~~~m
def hi (v m : W) : W := (v &&& ~~~m) ||| m
theorem lo_bit (v m : W) {i : Nat} (h : i < 64) : (lo v m).getLsbD i = (v.getLsbD i && !m.getLsbD i) := by simp [lo, h]
theorem hi_bit (v m : W) {i : Nat} (h : i < 64) : (hi v m).getLsbD i = (v.getLsbD i || m.getLsbD i) := by
  simp only [hi, BitVec.getLsbD_or, BitVec.getLsbD_and, BitVec.getLsbD_not, h, decide_true, Bool.true_and]
  cases v.getLsbD i <;> cases m.getLsbD i <;> rfl
theorem lo_add (v m : W) : lo v m + m = hi v m := by
  unfold lo hi
  refine BitVec.add_eq_or_of_and_eq_zero _ _ ?_
  apply BitVec.eq_of_getLsbD_eq
  intro i h
  simp only [BitVec.getLsbD_and, BitVec.getLsbD_not, h, decide_true, Bool.true_and, BitVec.getLsbD_zero]
  cases v.getLsbD i <;> cases m.getLsbD i <;> rfl
theorem ge64 (a : W) {i : Nat} (h : ¬ i < 64) : a.getLsbD i = false := BitVec.getLsbD_of_ge a i (by omega)
theorem in_lo {v m x : W} (h : Has v m x) : In (lo v m) x := by
  intro i hi
  by_cases hlt : i < 64
  · have := has_bit h hlt
    rw [lo_bit v m hlt, ← this] at hi
    revert hi
    cases x.getLsbD i <;> simp
  · rw [ge64 _ hlt] at hi; exact absurd hi (by simp)
theorem in_hi {v m x : W} (h : Has v m x) : In x (hi v m) := by
  intro i hi
  by_cases hlt : i < 64
  · have := has_bit h hlt
    rw [hi_bit v m hlt]
    rw [hi] at this
    revert this
    cases v.getLsbD i <;> cases m.getLsbD i <;> simp
  · rw [ge64 _ hlt] at hi; exact absurd hi (by simp)
theorem has_lo (v m : W) : Has v m (lo v m) := has_of fun i h => by
  rw [lo_bit v m h]; cases v.getLsbD i <;> cases m.getLsbD i <;> rfl
theorem has_hi (v m : W) : Has v m (hi v m) := has_of fun i h => by
  rw [hi_bit v m h]; cases v.getLsbD i <;> cases m.getLsbD i <;> rfl

/-! ### Sums -/
def addMask (va ma vb mb : W) : W := ((lo va ma + lo vb mb) ^^^ (lo va ma + lo vb mb + ma + mb)) ||| ma ||| mb
theorem most_eq (va ma vb mb : W) : lo va ma + lo vb mb + ma + mb = hi va ma + hi vb mb := by
  rw [← lo_add, ← lo_add]
  ac_rfl
theorem bit_of_hi {v m : W} {i : Nat} (h : i < 64) (hm : m.getLsbD i = false) : (hi v m).getLsbD i = v.getLsbD i ∧ (lo v m).getLsbD i = v.getLsbD i := by
  rw [hi_bit v m h, lo_bit v m h, hm]; simp
theorem addMask_bit (va ma vb mb : W) {i : Nat} (h : i < 64) : (addMask va ma vb mb).getLsbD i = (ma.getLsbD i || mb.getLsbD i || (BitVec.carry i (lo va ma) (lo vb mb) false ^^ BitVec.carry i (hi va ma) (hi vb mb) false)) := by
  unfold addMask
  rw [most_eq, BitVec.getLsbD_or, BitVec.getLsbD_or, BitVec.getLsbD_xor, BitVec.getLsbD_add h, BitVec.getLsbD_add h]
  cases h1 : ma.getLsbD i
  · cases h2 : mb.getLsbD i
    · obtain ⟨a1, a2⟩ := bit_of_hi (v := va) h h1
      obtain ⟨b1, b2⟩ := bit_of_hi (v := vb) h h2
      rw [a1, a2, b1, b2]
      cases va.getLsbD i <;> cases vb.getLsbD i <;> simp
    · simp
  · simp
theorem add_has {va ma vb mb x y : W} (hx : Has va ma x) (hy : Has vb mb y) : Has (lo va ma + lo vb mb) (addMask va ma vb mb) (x + y) := has_of fun i h => by
  rw [addMask_bit _ _ _ _ h, BitVec.getLsbD_add h, BitVec.getLsbD_add h]
  have b1 := has_bit hx h
  have b2 := has_bit hy h
  cases h1 : ma.getLsbD i
  · cases h2 : mb.getLsbD i
    · obtain ⟨_, a2⟩ := bit_of_hi (v := va) h h1
      obtain ⟨_, c2⟩ := bit_of_hi (v := vb) h h2
      have e1 : x.getLsbD i = va.getLsbD i := by simpa [h1] using b1
      have e2 : y.getLsbD i = vb.getLsbD i := by simpa [h2] using b2
      rw [a2, c2, e1, e2]
      have m1 := carry_mono (in_lo hx) (in_lo hy) i false
      have m2 := carry_mono (in_hi hx) (in_hi hy) i false
      revert m1 m2
      cases BitVec.carry i (lo va ma) (lo vb mb) false <;> cases BitVec.carry i x y false <;> cases BitVec.carry i (hi va ma) (hi vb mb) false <;> simp
    · simp
  · simp

/-! ### Differences -/
def subMask (va ma vb mb : W) : W := ((lo va ma - lo vb mb + ma) ^^^ (lo va ma - lo vb mb - mb)) ||| ma ||| mb
theorem sub_eq1 (va ma vb mb : W) : lo va ma - lo vb mb + ma = hi va ma - lo vb mb := by
  rw [← lo_add, BitVec.sub_eq_add_neg, BitVec.sub_eq_add_neg]
  ac_rfl
theorem sub_eq2 (va ma vb mb : W) : lo va ma - lo vb mb - mb = lo va ma - hi vb mb := by
  rw [← lo_add, BitVec.sub_eq_add_neg, BitVec.sub_eq_add_neg, BitVec.sub_eq_add_neg, BitVec.neg_add, BitVec.sub_eq_add_neg, BitVec.add_assoc]
theorem subMask_bit (va ma vb mb : W) {i : Nat} (h : i < 64) : (subMask va ma vb mb).getLsbD i = (ma.getLsbD i || mb.getLsbD i || (BitVec.carry i (hi va ma) (~~~lo vb mb) true ^^ BitVec.carry i (lo va ma) (~~~hi vb mb) true)) := by
  unfold subMask
  rw [sub_eq1, sub_eq2, BitVec.getLsbD_or, BitVec.getLsbD_or, BitVec.getLsbD_xor, sub_bit _ _ h, sub_bit _ _ h]
  cases h1 : ma.getLsbD i
  · cases h2 : mb.getLsbD i
    · obtain ⟨a1, a2⟩ := bit_of_hi (v := va) h h1
      obtain ⟨b1, b2⟩ := bit_of_hi (v := vb) h h2
      rw [a1, a2, b1, b2]
      cases va.getLsbD i <;> cases vb.getLsbD i <;> simp
    · simp
  · simp
theorem sub_has {va ma vb mb x y : W} (hx : Has va ma x) (hy : Has vb mb y) : Has (lo va ma - lo vb mb) (subMask va ma vb mb) (x - y) := has_of fun i h => by
  rw [subMask_bit _ _ _ _ h, sub_bit _ _ h, sub_bit _ _ h]
  have b1 := has_bit hx h
  have b2 := has_bit hy h
  cases h1 : ma.getLsbD i
  · cases h2 : mb.getLsbD i
    · obtain ⟨_, a2⟩ := bit_of_hi (v := va) h h1
      obtain ⟨_, c2⟩ := bit_of_hi (v := vb) h h2
      have e1 : x.getLsbD i = va.getLsbD i := by simpa [h1] using b1
      have e2 : y.getLsbD i = vb.getLsbD i := by simpa [h2] using b2
      rw [a2, c2, e1, e2]
      have m1 := carry_mono (in_lo hx) (in_hi hy).not i true
      have m2 := carry_mono (in_hi hx) (in_lo hy).not i true
      have m3 := carry_mono (in_lo (has_lo va ma)) (in_hi (has_lo vb mb)).not i true
      have m4 := carry_mono (in_hi (has_lo va ma)) (in_lo (has_lo vb mb)).not i true
      revert m1 m2 m3 m4
      cases BitVec.carry i (lo va ma) (~~~hi vb mb) true <;> cases BitVec.carry i x (~~~y) true <;> cases BitVec.carry i (hi va ma) (~~~lo vb mb) true <;> cases BitVec.carry i (lo va ma) (~~~lo vb mb) true <;> simp
    · simp
  · simp

/-! ### Bit by bit -/
theorem and_has {va ma vb mb x y : W} (hx : Has va ma x) (hy : Has vb mb y) : Has (lo va ma &&& lo vb mb) (((lo va ma ||| ma) &&& (lo vb mb ||| mb)) &&& ~~~(lo va ma &&& lo vb mb)) (x &&& y) := has_of fun i h => by
  have b1 := has_bit hx h
  have b2 := has_bit hy h
  simp only [BitVec.getLsbD_and, BitVec.getLsbD_or, BitVec.getLsbD_not, lo_bit _ _ h, h, decide_true, Bool.true_and]
  revert b1 b2
  cases x.getLsbD i <;> cases y.getLsbD i <;> cases va.getLsbD i <;> cases ma.getLsbD i <;> cases vb.getLsbD i <;> cases mb.getLsbD i <;> simp
theorem or_has {va ma vb mb x y : W} (hx : Has va ma x) (hy : Has vb mb y) : Has (lo va ma ||| lo vb mb) ((ma ||| mb) &&& ~~~(lo va ma ||| lo vb mb)) (x ||| y) := has_of fun i h => by
  have b1 := has_bit hx h
  have b2 := has_bit hy h
  simp only [BitVec.getLsbD_and, BitVec.getLsbD_or, BitVec.getLsbD_not, lo_bit _ _ h, h, decide_true, Bool.true_and]
  revert b1 b2
  cases x.getLsbD i <;> cases y.getLsbD i <;> cases va.getLsbD i <;> cases ma.getLsbD i <;> cases vb.getLsbD i <;> cases mb.getLsbD i <;> simp
theorem xor_has {va ma vb mb x y : W} (hx : Has va ma x) (hy : Has vb mb y) : Has (lo va ma ^^^ lo vb mb) (ma ||| mb) (x ^^^ y) := has_of fun i h => by
  have b1 := has_bit hx h
  have b2 := has_bit hy h
  simp only [BitVec.getLsbD_xor, BitVec.getLsbD_or, lo_bit _ _ h]
  revert b1 b2
  cases x.getLsbD i <;> cases y.getLsbD i <;> cases va.getLsbD i <;> cases ma.getLsbD i <;> cases vb.getLsbD i <;> cases mb.getLsbD i <;> simp
theorem has_right {v m x : W} (h : Has v m x) : Has (lo v m) m x := has_of fun i hi => by
  have := has_bit h hi
  rw [lo_bit _ _ hi]
  revert this
  cases x.getLsbD i <;> cases v.getLsbD i <;> cases m.getLsbD i <;> simp
theorem lsh_has {v m x : W} (h : Has v m x) (n : Nat) : Has (lo v m <<< n) (m <<< n) (x <<< n) := has_of fun i hi => by
  simp only [BitVec.getLsbD_shiftLeft]
  by_cases hn : i < n
  · simp [hn]
  · have hi2 : i - n < 64 := by omega
    have := has_bit (has_right h) hi2
    simp [hn, hi]
    simpa using this
theorem rsh_has {v m x : W} (h : Has v m x) (n : Nat) : Has (lo v m >>> n) (m >>> n) (x >>> n) := has_of fun i hi => by
  simp only [BitVec.getLsbD_ushiftRight]
  by_cases hn : n + i < 64
  · exact has_bit (has_right h) hn
  · simp only [ge64 _ hn]
theorem arsh_has {v m x : W} (h : Has v m x) (n : Nat) : Has ((lo v m).sshiftRight n) (m.sshiftRight n) (x.sshiftRight n) := has_of fun i hi => by
  simp only [BitVec.getLsbD_sshiftRight, BitVec.msb_eq_getLsbD_last]
  have hw : ¬ 64 ≤ i := by omega
  by_cases hn : n + i < 64
  · have := has_bit (has_right h) hn
    simp only [hw, hn, decide_false, Bool.not_false, Bool.true_and, if_true]
    exact this
  · have := has_bit (has_right h) (show 63 < 64 by omega)
    simp only [hw, hn, decide_false, Bool.not_false, Bool.true_and, if_false]
    exact this
theorem cut_has {v m x c : W} (h : Has v m x) : Has (lo v m &&& c) (m &&& c) (x &&& c) := has_of fun i hi => by
  have := has_bit (has_right h) hi
  simp only [BitVec.getLsbD_and]
  revert this
  cases x.getLsbD i <;> cases (lo v m).getLsbD i <;> cases m.getLsbD i <;> cases c.getLsbD i <;> simp
/-- Made right, a pattern has the same numbers. -/
theorem has_lo_iff (v m x : W) : Has (lo v m) m x ↔ Has v m x := by
  constructor
  · intro h
    refine has_of fun i hi => ?_
    have := has_bit h hi
    rw [lo_bit _ _ hi] at this
    revert this
    cases x.getLsbD i <;> cases v.getLsbD i <;> cases m.getLsbD i <;> simp
  · exact has_right
instance (v m x : W) : Decidable (Has v m x) := inferInstanceAs (Decidable (x &&& ~~~m = v &&& ~~~m))
end Go.Proofs.Ytgkdbhkbkpfbpaa.TB
