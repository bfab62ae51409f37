/- Any pattern shifted, and cut, is the document's: for all patterns, counts and sizes. -/
import Derived.Test.YteckjmejngieeaaPTnumShiftsx6
import Derived.Test.YteckjmejngieeaaTB
set_option linter.unusedVariables false
set_option linter.unusedSimpArgs false
namespace Go.Proofs.Yteckjmejngieeaa.Pure
open Go.RowKit Go.Proofs.Yteckjmejngieeaa.PTnumShifts Go.Proofs.YteckjmejngieeaaW.PrintWords Go.Proofs.YteckjmejngieeaaW.PrintLast Go.Proofs.YteckjmejngieeaaW.PrintMore Go.Proofs.Yteckjmejngieeaa.HB Go.Proofs.Yteckjmejngieeaa.TB

theorem t_alive : halberdlaw06_alive.f = some true := by decide +kernel
theorem t_right (v m : W) : tnum_right.f (U v) (U m) = some (U (lo v m), U m) := by
  unfold tnum_right.f lo
  rw [U_andNot]
theorem t_mod (n : W) : 0 ≤ Int.tmod (U n) 64 ∧ Int.tmod (U n) 64 < 64 := by
  rw [Int.tmod_eq_emod_of_nonneg (U_lo n)]; omega
theorem t_lsh (v m n : W) : tnum_Lsh.f (U v) (U m) (U n) = some (U (lo v m <<< (Int.tmod (U n) 64).toNat), U (m <<< (Int.tmod (U n) 64).toNat)) := by
  unfold tnum_Lsh.f
  have h := t_mod n
  simp only [t_right, Option.bind_some]
  rw [if_pos h.1, U_shl _ _ h.1 h.2, U_shl _ _ h.1 h.2]
theorem t_rsh (v m n : W) : tnum_Rsh.f (U v) (U m) (U n) = some (U (lo v m >>> (Int.tmod (U n) 64).toNat), U (m >>> (Int.tmod (U n) 64).toNat)) := by
  unfold tnum_Rsh.f
  have h := t_mod n
  simp only [t_right, Option.bind_some]
  rw [if_pos h.1, U_shr _ _ h.1 h.2, U_shr _ _ h.1 h.2]
theorem t_arsh (v m n : W) : tnum_Arsh.f (U v) (U m) (U n) = some (U ((lo v m).sshiftRight (Int.tmod (U n) 64).toNat), U (m.sshiftRight (Int.tmod (U n) 64).toNat)) := by
  unfold tnum_Arsh.f
  have h := t_mod n
  simp only [t_right, Option.bind_some]
  rw [if_pos h.1, U_sshr _ _ h.1 h.2, U_sshr _ _ h.1 h.2]
/-! ### The document's way: bit by bit -/
/-- Bit number i of a whole number. -/
def ib (x : W) (i : Nat) : Bool := x.getLsbD i
theorem U_half (x : W) : IntKind.u64.wrap (Int.tdiv (U x) 2) = U (x >>> 1) := by
  rw [Int.tdiv_eq_ediv_of_nonneg (U_lo x), wrap_u64_id (by have := U_lo x; omega) (by have := U_hi x; omega)]
  have := U_shr x 1 (by decide) (by decide)
  unfold shr at this
  exact this
theorem U_odd (x : W) : Int.tmod (U x) 2 = if x.getLsbD 0 = true then 1 else 0 := by
  rw [Int.tmod_eq_emod_of_nonneg (U_lo x)]
  unfold U
  have e : x.getLsbD 0 = decide (x.toNat % 2 = 1) := by
    rw [← BitVec.testBit_toNat, Nat.testBit_zero]
  rw [e]
  by_cases h : x.toNat % 2 = 1
  · rw [if_pos (by simpa using h)]; omega
  · rw [if_neg (by simpa using h)]; omega
theorem bit_loop (v m : W) (i : Nat) (hi : i ≤ 64) : ∀ (d k j : Nat), j + d = i → d < k →
    halberdref06_Bit.l0 k i (U (m >>> j)) (U (v >>> j)) j = some (m.getLsbD i || !v.getLsbD i, m.getLsbD i || v.getLsbD i) := by
  intro d
  induction d with
  | zero =>
    intro k j hj hk
    obtain ⟨k, rfl⟩ : ∃ n, k = n + 1 := ⟨k - 1, by omega⟩
    obtain rfl : j = i := by omega
    simp only [halberdref06_Bit.l0]
    rw [if_neg (by omega), U_odd, U_odd, BitVec.getLsbD_ushiftRight, BitVec.getLsbD_ushiftRight, Nat.add_zero]
    cases hm : m.getLsbD j <;> cases hv : v.getLsbD j <;> simp
  | succ d ih =>
    intro k j hj hk
    obtain ⟨k, rfl⟩ : ∃ n, k = n + 1 := ⟨k - 1, by omega⟩
    simp only [halberdref06_Bit.l0]
    have e3 : wrap64 ((j : Int) + 1) = ((j + 1 : Nat) : Int) := by unfold wrap64; omega
    rw [if_pos (by omega), U_half, U_half, e3, ← BitVec.shiftRight_add, ← BitVec.shiftRight_add]
    exact ih k (j + 1) (by omega) (by omega)
theorem bit_val (v m : W) (i k : Nat) (hi : i ≤ 64) (hk : i < k) : halberdref06_Bit.f k (U v) (U m) i = some (m.getLsbD i || !v.getLsbD i, m.getLsbD i || v.getLsbD i) := by
  unfold halberdref06_Bit.f
  have := bit_loop v m i hi i k 0 (by omega) hk
  simpa using this
/-! ### Lists of bits, put together -/
theorem rdOf_at (l : List Bool) (i : Nat) : rdOf false l (i : Int) = l.getD i false := by
  unfold rdOf
  rw [Int.toNat_natCast]
theorem U_twice (i : Nat) (hi : i < 64) : IntKind.u64.wrap (2 * U (1#64 <<< i)) = U (1#64 <<< (i + 1)) := by
  unfold U
  rw [IntKind.wrap_u64, BitVec.toNat_shiftLeft, BitVec.toNat_shiftLeft, Nat.shiftLeft_eq, Nat.shiftLeft_eq, Nat.pow_succ]
  have : (2 : Nat) ^ i < 2 ^ 64 := Nat.pow_lt_pow_right (by decide) hi
  have e : (1#64).toNat = 1 := rfl
  rw [e, Nat.one_mul, Nat.one_mul, Nat.mod_eq_of_lt this]
  omega
theorem add_bit (x : W) (i : Nat) (hi : i < 64) (h : ∀ j, i ≤ j → x.getLsbD j = false) : x + 1#64 <<< i = x ||| 1#64 <<< i := by
  refine BitVec.add_eq_or_of_and_eq_zero _ _ ?_
  apply BitVec.eq_of_getLsbD_eq
  intro j hj
  rw [BitVec.getLsbD_and, BitVec.getLsbD_zero, BitVec.getLsbD_shiftLeft]
  by_cases hij : j < i
  · simp [hij]
  · rw [h j (by omega)]; rfl
theorem one_bit (i j : Nat) (hj : j < 64) : (1#64 <<< i).getLsbD j = decide (i = j) := by
  rw [BitVec.getLsbD_shiftLeft]
  by_cases hij : j < i
  · simp [hij]; omega
  · simp [hij, hj]
    constructor <;> intro h <;> omega
theorem of_loop (zl ol : List Bool) (hz : zl.length = 64) (ho : ol.length = 64) : ∀ (d k i : Nat) (V M : W), i + d = 64 → 2 * d < k → (∀ j, i ≤ j → V.getLsbD j = false) → (∀ j, i ≤ j → M.getLsbD j = false) →
    ∃ V' M' : W, halberdref06_Of.l0 k zl ol (U (1#64 <<< i)) i (U V) (U M) = some (U V', U M') ∧ (∀ j, j < i → V'.getLsbD j = V.getLsbD j ∧ M'.getLsbD j = M.getLsbD j) ∧
      ∀ j, i ≤ j → j < 64 → M'.getLsbD j = (zl.getD j false && ol.getD j false) ∧ V'.getLsbD j = (ol.getD j false && !zl.getD j false) := by
  intro d
  induction d with
  | zero =>
    intro k i V M hi hk hV hM
    obtain ⟨k, rfl⟩ : ∃ n, k = n + 1 := ⟨k - 1, by omega⟩
    refine ⟨V, M, ?_, fun j hj => ⟨rfl, rfl⟩, fun j h1 h2 => by omega⟩
    simp only [halberdref06_Of.l0]
    rw [if_neg (by omega)]
  | succ d ih =>
    intro k i V M hi hk hV hM
    obtain ⟨k, rfl⟩ : ∃ n, k = n + 2 := ⟨k - 2, by omega⟩
    have hi64 : i < 64 := by omega
    have e3 : wrap64 ((i : Int) + 1) = ((i + 1 : Nat) : Int) := by unfold wrap64; omega
    have step : ∀ (V2 M2 : W), (∀ j, i + 1 ≤ j → V2.getLsbD j = false) → (∀ j, i + 1 ≤ j → M2.getLsbD j = false) → (∀ j, j < i → V2.getLsbD j = V.getLsbD j ∧ M2.getLsbD j = M.getLsbD j) →
        M2.getLsbD i = (zl.getD i false && ol.getD i false) → V2.getLsbD i = (ol.getD i false && !zl.getD i false) →
        halberdref06_Of.l0 (k + 2) zl ol (U (1#64 <<< i)) i (U V) (U M) = halberdref06_Of.l0 k zl ol (IntKind.u64.wrap (2 * U (1#64 <<< i))) (wrap64 ((i : Int) + 1)) (U V2) (U M2) →
        ∃ V' M' : W, halberdref06_Of.l0 (k + 2) zl ol (U (1#64 <<< i)) i (U V) (U M) = some (U V', U M') ∧ (∀ j, j < i → V'.getLsbD j = V.getLsbD j ∧ M'.getLsbD j = M.getLsbD j) ∧
          ∀ j, i ≤ j → j < 64 → M'.getLsbD j = (zl.getD j false && ol.getD j false) ∧ V'.getLsbD j = (ol.getD j false && !zl.getD j false) := by
      intro V2 M2 a1 a2 a3 a4 a5 a6
      obtain ⟨V', M', b1, b2, b3⟩ := ih k (i + 1) V2 M2 (by omega) (by omega) a1 a2
      rw [U_twice i hi64, e3] at a6
      refine ⟨V', M', a6.trans b1, fun j hj => ?_, fun j h1 h2 => ?_⟩
      · exact ⟨(b2 j (by omega)).1.trans (a3 j hj).1, (b2 j (by omega)).2.trans (a3 j hj).2⟩
      · by_cases hij : j = i
        · subst hij
          exact ⟨(b2 j (by omega)).2.trans a4, (b2 j (by omega)).1.trans a5⟩
        · exact b3 j (by omega) h2
    have hset : ∀ X : W, (∀ j, i ≤ j → X.getLsbD j = false) → (∀ j, i + 1 ≤ j → (X ||| 1#64 <<< i).getLsbD j = false) ∧ (∀ j, j < i → (X ||| 1#64 <<< i).getLsbD j = X.getLsbD j) ∧ (X ||| 1#64 <<< i).getLsbD i = true := by
      intro X hX
      refine ⟨fun j hj => ?_, fun j hj => ?_, ?_⟩
      · rw [BitVec.getLsbD_or, hX j (by omega)]
        by_cases hj64 : j < 64
        · rw [one_bit i j hj64]; simp; omega
        · rw [ge64 _ hj64]; rfl
      · rw [BitVec.getLsbD_or, one_bit i j (by omega), decide_eq_false (by omega)]; simp
      · rw [BitVec.getLsbD_or, one_bit i i hi64]; simp
    obtain ⟨v1, v2, v3⟩ := hset V hV
    obtain ⟨m1, m2, m3⟩ := hset M hM
    have q0 : (0 : Int) ≤ (i : Int) := by omega
    have q1 : (i : Int) < 64 := by omega
    have qz : (i : Int) < (zl.length : Int) := by omega
    have qo : (i : Int) < (ol.length : Int) := by omega
    cases hzz : zl.getD i false
    · cases hoo : ol.getD i false
      · refine step V M (fun j hj => hV j (by omega)) (fun j hj => hM j (by omega)) (fun j hj => ⟨rfl, rfl⟩) (by rw [hzz, hoo, hM i (Nat.le_refl i)]; rfl) (by rw [hzz, hoo, hV i (Nat.le_refl i)]; rfl) ?_
        simp only [halberdref06_Of.l0, halberdref06_Of.j1, rdOf_at, hzz, hoo, if_pos q1, if_pos q0, if_pos qz, if_pos qo, if_true, if_false, Bool.false_eq_true]
      · refine step (V ||| 1#64 <<< i) M v1 (fun j hj => hM j (by omega)) (fun j hj => ⟨v2 j hj, rfl⟩) (by rw [hzz, hoo, hM i (Nat.le_refl i)]; rfl) (by rw [hzz, hoo, v3]; rfl) ?_
        simp only [halberdref06_Of.l0, halberdref06_Of.j1, rdOf_at, hzz, hoo, if_pos q1, if_pos q0, if_pos qz, if_pos qo, if_true, if_false, Bool.false_eq_true, U_add, add_bit V i hi64 hV]
    · cases hoo : ol.getD i false
      · refine step V M (fun j hj => hV j (by omega)) (fun j hj => hM j (by omega)) (fun j hj => ⟨rfl, rfl⟩) (by rw [hzz, hoo, hM i (Nat.le_refl i)]; rfl) (by rw [hzz, hoo, hV i (Nat.le_refl i)]; rfl) ?_
        simp only [halberdref06_Of.l0, halberdref06_Of.j1, rdOf_at, hzz, hoo, if_pos q1, if_pos q0, if_pos qz, if_pos qo, if_true, if_false, Bool.false_eq_true]
      · refine step V (M ||| 1#64 <<< i) (fun j hj => hV j (by omega)) m1 (fun j hj => ⟨rfl, m2 j hj⟩) (by rw [hzz, hoo, m3]; rfl) (by rw [hzz, hoo, hV i (Nat.le_refl i)]; rfl) ?_
        simp only [halberdref06_Of.l0, halberdref06_Of.j1, rdOf_at, hzz, hoo, if_pos q1, if_pos q0, if_pos qz, if_pos qo, if_true, if_false, Bool.false_eq_true, U_add, add_bit M i hi64 hM]
theorem of_val (zl ol : List Bool) (hz : zl.length = 64) (ho : ol.length = 64) (k : Nat) (hk : 128 < k) (V M : W)
    (h : ∀ j, j < 64 → M.getLsbD j = (zl.getD j false && ol.getD j false) ∧ V.getLsbD j = (ol.getD j false && !zl.getD j false)) : halberdref06_Of.f k zl ol = some (U V, U M) := by
  unfold halberdref06_Of.f
  obtain ⟨V', M', h1, _, h3⟩ := of_loop zl ol hz ho 64 k 0 0#64 0#64 (by omega) (by omega) (fun j _ => by simp) (fun j _ => by simp)
  have e1 : V' = V := BitVec.eq_of_getLsbD_eq fun i hi => ((h3 i (Nat.zero_le i) hi).2).trans (h i hi).2.symm
  have e2 : M' = M := BitVec.eq_of_getLsbD_eq fun i hi => ((h3 i (Nat.zero_le i) hi).1).trans (h i hi).1.symm
  rw [← e1, ← e2]
  exact h1
theorem getD_set (l : List Bool) (i j : Nat) (b : Bool) (hi : i < l.length) : (l.set i b).getD j false = if j = i then b else l.getD j false := by
  by_cases h : j = i
  · subst h
    rw [if_pos rfl, List.getD_eq_getElem?_getD, List.getElem?_set_self hi]; rfl
  · rw [if_neg h, List.getD_eq_getElem?_getD, List.getElem?_set_ne (Ne.symm h), ← List.getD_eq_getElem?_getD]
/-- May bit i be 0, may it be 1? -/
def mz (v m : W) (i : Nat) : Bool := m.getLsbD i || !v.getLsbD i
def mo (v m : W) (i : Nat) : Bool := m.getLsbD i || v.getLsbD i
/-- Which bit comes to place j. -/
def src (kind n j : Nat) : Option Nat := if kind = 0 then (if n ≤ j then some (j - n) else none) else if j + n < 64 then some (j + n) else if kind = 2 then some 63 else none
def srcZ (v m : W) (kind n j : Nat) : Bool := match src kind n j with
  | some s => mz v m s
  | none => true
def srcO (v m : W) (kind n j : Nat) : Bool := match src kind n j with
  | some s => mo v m s
  | none => false
theorem set_self (ol : List Bool) (i : Nat) (hi : i < ol.length) (hol : ol.getD i false = false) : ol.set i false = ol := by
  apply List.ext_getElem?
  intro j
  by_cases hj : i = j
  · subst hj
    rw [List.getElem?_set_self hi]
    rw [List.getD_eq_getElem?_getD, List.getElem?_eq_getElem hi] at hol
    rw [List.getElem?_eq_getElem hi]
    simpa using hol.symm
  · rw [List.getElem?_set_ne hj]
theorem shift_step0 (v m : W) (n : Nat) (hn : n < 64) (k i : Nat) (hi : i < 64) (hk : 64 < k) (zl ol : List Bool) (hz : zl.length = 64) (ho : ol.length = 64) (hol : ol.getD i false = false) :
    halberdref06_Shift.l0 (k + 3) (0 : Int) n zl ol i (U v) (U m) = halberdref06_Shift.l0 k (0 : Int) n (zl.set i (srcZ v m 0 n i)) (ol.set i (srcO v m 0 n i)) ((i + 1 : Nat) : Int) (U v) (U m) := by
  have q1 : (i : Int) < 64 := by omega
  have q0 : (0 : Int) ≤ (i : Int) := by omega
  have qz : (i : Int) < (zl.length : Int) := by omega
  have qo : (i : Int) < (ol.length : Int) := by omega
  have e3 : wrap64 ((i : Int) + 1) = ((i + 1 : Nat) : Int) := by unfold wrap64; omega
  have hself := set_self ol i (by omega) hol
  rw [halberdref06_Shift.l0, if_pos q1, if_pos rfl, halberdref06_Shift.j1, if_pos q0, if_pos qz, Option.bind_some, if_neg (by decide), halberdref06_Shift.j2, if_neg (by decide)]
  simp only [e3, Int.toNat_natCast, List.length_set, if_pos q0, if_pos qz, if_pos qo]
  by_cases h : n ≤ i
  · have e : wrap64 ((i : Int) - (n : Int)) = ((i - n : Nat) : Int) := by unfold wrap64; omega
    rw [e, if_pos (by omega), if_pos (by omega), bit_val v m (i - n) k (by omega) (by omega)]
    simp only [Option.bind_some, List.set_set]
    have es : src 0 n i = some (i - n) := by unfold src; rw [if_pos rfl, if_pos h]
    simp only [srcZ, srcO, es, mz, mo]
  · have e : wrap64 ((i : Int) - (n : Int)) = (i : Int) - n := by unfold wrap64; omega
    rw [e, if_neg (by omega)]
    have es : src 0 n i = none := by unfold src; rw [if_pos rfl, if_neg h]
    simp only [srcZ, srcO, es, hself]
theorem shift_step1 (v m : W) (n : Nat) (hn : n < 64) (k i : Nat) (hi : i < 64) (hk : 64 < k) (zl ol : List Bool) (hz : zl.length = 64) (ho : ol.length = 64) (hol : ol.getD i false = false) :
    halberdref06_Shift.l0 (k + 3) (1 : Int) n zl ol i (U v) (U m) = halberdref06_Shift.l0 k (1 : Int) n (zl.set i (srcZ v m 1 n i)) (ol.set i (srcO v m 1 n i)) ((i + 1 : Nat) : Int) (U v) (U m) := by
  have q1 : (i : Int) < 64 := by omega
  have q0 : (0 : Int) ≤ (i : Int) := by omega
  have qz : (i : Int) < (zl.length : Int) := by omega
  have qo : (i : Int) < (ol.length : Int) := by omega
  have e3 : wrap64 ((i : Int) + 1) = ((i + 1 : Nat) : Int) := by unfold wrap64; omega
  have hself := set_self ol i (by omega) hol
  have e : wrap64 ((i : Int) + (n : Int)) = ((i + n : Nat) : Int) := by unfold wrap64; omega
  simp only [halberdref06_Shift.l0, halberdref06_Shift.j1, halberdref06_Shift.j2, if_pos q1, if_pos q0, if_pos qz, if_true, Option.bind_some, e3, Int.toNat_natCast, List.length_set, if_pos qo, e]
  rw [if_neg (show ¬ ((1 : Int) = 0) by decide), if_neg (show ¬ ((1 : Int) = 2) by decide)]
  simp only [Bool.false_eq_true, if_false]
  rw [if_pos (by omega)]
  by_cases h : i + n < 64
  · rw [if_pos (by omega), bit_val v m (i + n) k (by omega) (by omega)]
    simp only [Option.bind_some, List.set_set]
    have es : src 1 n i = some (i + n) := by unfold src; rw [if_neg (by decide), if_pos h]
    simp only [srcZ, srcO, es, mz, mo]
  · rw [if_neg (by omega)]
    have es : src 1 n i = none := by unfold src; rw [if_neg (by decide), if_neg h, if_neg (by decide)]
    simp only [srcZ, srcO, es, hself]
theorem shift_step2 (v m : W) (n : Nat) (hn : n < 64) (k i : Nat) (hi : i < 64) (hk : 64 < k) (zl ol : List Bool) (hz : zl.length = 64) (ho : ol.length = 64) (hol : ol.getD i false = false) :
    halberdref06_Shift.l0 (k + 3) (2 : Int) n zl ol i (U v) (U m) = halberdref06_Shift.l0 k (2 : Int) n (zl.set i (srcZ v m 2 n i)) (ol.set i (srcO v m 2 n i)) ((i + 1 : Nat) : Int) (U v) (U m) := by
  have q1 : (i : Int) < 64 := by omega
  have q0 : (0 : Int) ≤ (i : Int) := by omega
  have qz : (i : Int) < (zl.length : Int) := by omega
  have qo : (i : Int) < (ol.length : Int) := by omega
  have e3 : wrap64 ((i : Int) + 1) = ((i + 1 : Nat) : Int) := by unfold wrap64; omega
  have hself := set_self ol i (by omega) hol
  have e : wrap64 ((i : Int) + (n : Int)) = ((i + n : Nat) : Int) := by unfold wrap64; omega
  simp only [halberdref06_Shift.l0, halberdref06_Shift.j1, halberdref06_Shift.j2, if_pos q1, if_pos q0, if_pos qz, if_true, Option.bind_some, e3, Int.toNat_natCast, List.length_set, if_pos qo, e]
  rw [if_neg (show ¬ ((2 : Int) = 0) by decide)]
  by_cases h : i + n < 64
  · rw [if_neg (by simp; omega), if_pos (by omega), if_pos (by omega), bit_val v m (i + n) k (by omega) (by omega)]
    simp only [Option.bind_some, List.set_set]
    have es : src 2 n i = some (i + n) := by unfold src; rw [if_neg (by decide), if_pos h]
    simp only [srcZ, srcO, es, mz, mo]
  · have b63 := bit_val v m 63 k (by omega) (by omega)
    rw [if_pos (by simp; omega), if_pos (by decide), if_pos (by decide)]
    rw [show ((63 : Nat) : Int) = 63 from rfl] at b63
    rw [b63]
    simp only [Option.bind_some, List.set_set]
    have es : src 2 n i = some 63 := by unfold src; rw [if_neg (by decide), if_neg h, if_pos rfl]
    simp only [srcZ, srcO, es, mz, mo]
theorem shift_step (v m : W) (kind n : Nat) (hkind : kind = 0 ∨ kind = 1 ∨ kind = 2) (hn : n < 64) (k i : Nat) (hi : i < 64) (hk : 64 < k) (zl ol : List Bool) (hz : zl.length = 64) (ho : ol.length = 64) (hol : ol.getD i false = false) :
    halberdref06_Shift.l0 (k + 3) kind n zl ol i (U v) (U m) = halberdref06_Shift.l0 k kind n (zl.set i (srcZ v m kind n i)) (ol.set i (srcO v m kind n i)) ((i + 1 : Nat) : Int) (U v) (U m) := by
  rcases hkind with rfl | rfl | rfl
  · exact shift_step0 v m n hn k i hi hk zl ol hz ho hol
  · exact shift_step1 v m n hn k i hi hk zl ol hz ho hol
  · exact shift_step2 v m n hn k i hi hk zl ol hz ho hol
theorem shift_loop (v m : W) (kind n : Nat) (hkind : kind = 0 ∨ kind = 1 ∨ kind = 2) (hn : n < 64) (V M : W) (hV : ∀ j, j < 64 → M.getLsbD j = (srcZ v m kind n j && srcO v m kind n j) ∧ V.getLsbD j = (srcO v m kind n j && !srcZ v m kind n j)) :
    ∀ (d k i : Nat) (zl ol : List Bool), i + d = 64 → 3 * d + 130 < k → zl.length = 64 → ol.length = 64 →
    (∀ j, j < i → zl.getD j false = srcZ v m kind n j ∧ ol.getD j false = srcO v m kind n j) → (∀ j, i ≤ j → ol.getD j false = false) →
    halberdref06_Shift.l0 k kind n zl ol i (U v) (U m) = some (U V, U M) := by
  intro d
  induction d with
  | zero =>
    intro k i zl ol hi hk hz ho hl hf
    obtain ⟨k, rfl⟩ : ∃ n, k = n + 1 := ⟨k - 1, by omega⟩
    simp only [halberdref06_Shift.l0]
    rw [if_neg (by omega), of_val zl ol hz ho k (by omega) V M (fun j hj => by rw [(hl j (by omega)).1, (hl j (by omega)).2]; exact hV j hj)]
    rfl
  | succ d ih =>
    intro k i zl ol hi hk hz ho hl hf
    obtain ⟨k, rfl⟩ : ∃ n, k = n + 3 := ⟨k - 3, by omega⟩
    rw [shift_step v m kind n hkind hn k i (by omega) (by omega) zl ol hz ho (hf i (Nat.le_refl i))]
    refine ih k (i + 1) _ _ (by omega) (by omega) (by simpa using hz) (by simpa using ho) (fun j hj => ?_) (fun j hj => ?_)
    · rw [getD_set _ _ _ _ (by omega), getD_set _ _ _ _ (by omega)]
      by_cases hij : j = i
      · subst hij; rw [if_pos rfl, if_pos rfl]; exact ⟨rfl, rfl⟩
      · rw [if_neg hij, if_neg hij]; exact hl j (by omega)
    · rw [getD_set _ _ _ _ (by omega), if_neg (by omega)]
      exact hf j (by omega)
theorem rep_false (n j : Nat) : (List.replicate n false).getD j false = false := by
  rw [List.getD_eq_getElem?_getD, List.getElem?_replicate]
  split <;> rfl
theorem shift_ref (v m x : W) (kind : Nat) (hkind : kind = 0 ∨ kind = 1 ∨ kind = 2) (k : Nat) (hk : 330 < k) (V M : W)
    (hV : ∀ j, j < 64 → M.getLsbD j = (srcZ v m kind (Int.tmod (U x) 64).toNat j && srcO v m kind (Int.tmod (U x) 64).toNat j) ∧ V.getLsbD j = (srcO v m kind (Int.tmod (U x) 64).toNat j && !srcZ v m kind (Int.tmod (U x) 64).toNat j)) :
    halberdref06_Shift.f k kind (U v) (U m) (U x) = some (U V, U M) := by
  have hn := t_mod x
  unfold halberdref06_Shift.f
  rw [if_pos (by decide)]
  have e : wrap64 (Int.tmod (U x) 64) = (((Int.tmod (U x) 64).toNat : Nat) : Int) := by unfold wrap64; omega
  rw [e]
  exact shift_loop v m kind _ hkind (by omega) V M hV 64 k 0 _ _ (by omega) (by omega) (by simp) (by simp) (fun j hj => by omega) (fun j _ => rep_false 64 j)
theorem lsh_same (v m : W) (n : Nat) (hn : n < 64) (j : Nat) (hj : j < 64) : (m <<< n).getLsbD j = (srcZ v m 0 n j && srcO v m 0 n j) ∧ (lo v m <<< n).getLsbD j = (srcO v m 0 n j && !srcZ v m 0 n j) := by
  rw [BitVec.getLsbD_shiftLeft, BitVec.getLsbD_shiftLeft]
  unfold srcZ srcO
  by_cases h : n ≤ j
  · have es : src 0 n j = some (j - n) := by unfold src; rw [if_pos rfl, if_pos h]
    rw [es, lo_bit v m (show j - n < 64 by omega)]
    simp only [mz, mo, hj, decide_true, Bool.true_and, decide_eq_false (show ¬ j < n by omega), Bool.not_false]
    cases v.getLsbD (j - n) <;> cases m.getLsbD (j - n) <;> exact ⟨rfl, rfl⟩
  · have es : src 0 n j = none := by unfold src; rw [if_pos rfl, if_neg h]
    rw [es]
    simp only [hj, decide_true, Bool.true_and, decide_eq_true (show j < n by omega), Bool.not_true, Bool.false_and]
    constructor <;> first | trivial | rfl
theorem rsh_same (v m : W) (n : Nat) (hn : n < 64) (j : Nat) (hj : j < 64) : (m >>> n).getLsbD j = (srcZ v m 1 n j && srcO v m 1 n j) ∧ (lo v m >>> n).getLsbD j = (srcO v m 1 n j && !srcZ v m 1 n j) := by
  rw [BitVec.getLsbD_ushiftRight, BitVec.getLsbD_ushiftRight]
  unfold srcZ srcO
  by_cases h : j + n < 64
  · have es : src 1 n j = some (j + n) := by unfold src; rw [if_neg (by decide), if_pos h]
    rw [es, lo_bit v m (show n + j < 64 by omega), Nat.add_comm n j]
    simp only [mz, mo]
    cases v.getLsbD (j + n) <;> cases m.getLsbD (j + n) <;> exact ⟨rfl, rfl⟩
  · have es : src 1 n j = none := by unfold src; rw [if_neg (by decide), if_neg h, if_neg (by decide)]
    rw [es, ge64 _ (show ¬ n + j < 64 by omega), ge64 _ (show ¬ n + j < 64 by omega)]
    exact ⟨rfl, rfl⟩
theorem arsh_same (v m : W) (n : Nat) (hn : n < 64) (j : Nat) (hj : j < 64) : (m.sshiftRight n).getLsbD j = (srcZ v m 2 n j && srcO v m 2 n j) ∧ ((lo v m).sshiftRight n).getLsbD j = (srcO v m 2 n j && !srcZ v m 2 n j) := by
  rw [BitVec.getLsbD_sshiftRight, BitVec.getLsbD_sshiftRight, BitVec.msb_eq_getLsbD_last, BitVec.msb_eq_getLsbD_last]
  have hw : decide (64 ≤ j) = false := decide_eq_false (by omega)
  unfold srcZ srcO
  by_cases h : j + n < 64
  · have es : src 2 n j = some (j + n) := by unfold src; rw [if_neg (by decide), if_pos h]
    rw [es, if_pos (by omega), if_pos (by omega), lo_bit v m (show n + j < 64 by omega), Nat.add_comm n j, hw]
    simp only [mz, mo]
    cases v.getLsbD (j + n) <;> cases m.getLsbD (j + n) <;> exact ⟨rfl, rfl⟩
  · have es : src 2 n j = some 63 := by unfold src; rw [if_neg (by decide), if_neg h, if_pos rfl]
    rw [es, if_neg (by omega), if_neg (by omega), show 64 - 1 = 63 from rfl, lo_bit v m (show 63 < 64 by omega), hw]
    simp only [mz, mo]
    cases v.getLsbD 63 <;> cases m.getLsbD 63 <;> exact ⟨rfl, rfl⟩

/-! ### Cuts -/
def lowW (n : Nat) : W := BitVec.ofNat 64 (2 ^ n - 1)
theorem lowW_bit (n i : Nat) (hi : i < 64) : (lowW n).getLsbD i = decide (i < n) := by
  unfold lowW
  rw [BitVec.getLsbD_ofNat, Nat.testBit_two_pow_sub_one]
  simp [hi]
theorem zext_sz (x : W) (n : Nat) (hn : n = 1 ∨ n = 2 ∨ n = 4 ∨ n = 8) : words_Zext.f (U x) n = some (U (x &&& lowW (8 * n))) := by
  rcases hn with rfl | rfl | rfl | rfl
  · have e : words_Zext.f (U x) ((1 : Nat) : Int) = some (Go.bits .and .u64 (U x) (U (lowW (8 * 1)))) := by kernel_rfl
    rw [e, U_and]
  · have e : words_Zext.f (U x) ((2 : Nat) : Int) = some (Go.bits .and .u64 (U x) (U (lowW (8 * 2)))) := by kernel_rfl
    rw [e, U_and]
  · have e : words_Zext.f (U x) ((4 : Nat) : Int) = some (Go.bits .and .u64 (U x) (U (lowW (8 * 4)))) := by kernel_rfl
    rw [e, U_and]
  · have e : words_Zext.f (U x) ((8 : Nat) : Int) = some (Go.bits .and .u64 (U x) (U (lowW (8 * 8)))) := by kernel_rfl
    rw [e, U_and]
/-- How many bits are kept. -/
def kept (n : Int) : Nat := if n = 1 then 8 else if n = 2 then 16 else if n = 4 then 32 else 64
theorem all_low (x : W) : x &&& lowW 64 = x := by
  apply BitVec.eq_of_getLsbD_eq
  intro i hi
  rw [BitVec.getLsbD_and, lowW_bit _ _ hi, decide_eq_true hi, Bool.and_true]
theorem zext_any (x : W) (n : Int) : words_Zext.f (U x) n = some (U (x &&& lowW (kept n))) := by
  by_cases h : n = 1 ∨ n = 2 ∨ n = 4 ∨ n = 8
  · rcases h with rfl | rfl | rfl | rfl
    · exact zext_sz x 1 (by omega)
    · exact zext_sz x 2 (by omega)
    · exact zext_sz x 4 (by omega)
    · exact zext_sz x 8 (by omega)
  · have hb : (n == 8) = false := by simp; omega
    have e : words_IsSize.f n = some false := by unfold words_IsSize.f; rw [if_neg (by omega), if_neg (by omega), if_neg (by omega), hb]
    have e2 : kept n = 64 := by unfold kept; rw [if_neg (by omega), if_neg (by omega), if_neg (by omega)]
    rw [e2, all_low]
    unfold words_Zext.f
    rw [e]; rfl
theorem cut_prog (v m : W) (n : Int) : tnum_Cut.f (U v) (U m) n = some (U (lo v m &&& lowW (kept n)), U (m &&& lowW (kept n))) := by
  unfold tnum_Cut.f
  simp only [t_right, Option.bind_some, zext_any]
theorem cut_loop (v m : W) (n : Nat) (hn : n ≤ 8) (V M : W) (hV : ∀ j, j < 64 → M.getLsbD j = (m.getLsbD j && decide (j < 8 * n)) ∧ V.getLsbD j = ((lo v m).getLsbD j && decide (j < 8 * n))) :
    ∀ (d k i : Nat) (zl ol : List Bool), i + d = 64 → d + 130 < k → zl.length = 64 → ol.length = 64 →
    (∀ j, j < i → zl.getD j false = (if j < 8 * n then mz v m j else true) ∧ ol.getD j false = (if j < 8 * n then mo v m j else false)) → (∀ j, i ≤ j → ol.getD j false = false) →
    halberdref06_Cut.l0 k n zl ol i (U v) (U m) = some (U V, U M) := by
  intro d
  induction d with
  | zero =>
    intro k i zl ol hi hk hz ho hl hf
    obtain ⟨k, rfl⟩ : ∃ n, k = n + 1 := ⟨k - 1, by omega⟩
    simp only [halberdref06_Cut.l0]
    rw [if_neg (by omega), of_val zl ol hz ho k (by omega) V M (fun j hj => by
      rw [(hl j (by omega)).1, (hl j (by omega)).2, (hV j hj).1, (hV j hj).2, lo_bit _ _ hj]
      by_cases h : j < 8 * n
      · rw [if_pos h, if_pos h, decide_eq_true h]
        unfold mz mo
        cases v.getLsbD j <;> cases m.getLsbD j <;> exact ⟨rfl, rfl⟩
      · rw [if_neg h, if_neg h, decide_eq_false h]
        cases v.getLsbD j <;> cases m.getLsbD j <;> exact ⟨rfl, rfl⟩)]
    rfl
  | succ d ih =>
    intro k i zl ol hi hk hz ho hl hf
    obtain ⟨k, rfl⟩ : ∃ n, k = n + 1 := ⟨k - 1, by omega⟩
    have q1 : (i : Int) < 64 := by omega
    have q0 : (0 : Int) ≤ (i : Int) := by omega
    have qz : (i : Int) < (zl.length : Int) := by omega
    have qo : (i : Int) < (ol.length : Int) := by omega
    have e3 : wrap64 ((i : Int) + 1) = ((i + 1 : Nat) : Int) := by unfold wrap64; omega
    have e4 : wrap64 (8 * (n : Int)) = ((8 * n : Nat) : Int) := by unfold wrap64; omega
    simp only [halberdref06_Cut.l0, if_pos q1, if_pos q0, if_pos qz, if_pos qo, e3, e4, Option.bind_some, Int.toNat_natCast]
    by_cases h : i < 8 * n
    · rw [if_pos (by omega), bit_val v m i k (by omega) (by omega)]
      simp only [Option.bind_some, List.set_set]
      refine ih k (i + 1) _ _ (by omega) (by omega) (by simpa using hz) (by simpa using ho) (fun j hj => ?_) (fun j hj => ?_)
      · rw [getD_set _ _ _ _ (by omega), getD_set _ _ _ _ (by omega)]
        by_cases hij : j = i
        · subst hij; rw [if_pos rfl, if_pos rfl, if_pos h, if_pos h]; exact ⟨rfl, rfl⟩
        · rw [if_neg hij, if_neg hij]; exact hl j (by omega)
      · rw [getD_set _ _ _ _ (by omega), if_neg (by omega)]
        exact hf j (by omega)
    · rw [if_neg (by omega)]
      refine ih k (i + 1) _ _ (by omega) (by omega) (by simpa using hz) ho (fun j hj => ?_) (fun j hj => hf j (by omega))
      rw [getD_set _ _ _ _ (by omega)]
      by_cases hij : j = i
      · subst hij; rw [if_pos rfl, if_neg h, if_neg h, hf j (Nat.le_refl j)]; exact ⟨rfl, rfl⟩
      · rw [if_neg hij]; exact hl j (by omega)
theorem cut_ref (v m : W) (n : Int) (k : Nat) (hk : 300 < k) : halberdref06_Cut.f k (U v) (U m) n = some (U (lo v m &&& lowW (kept n)), U (m &&& lowW (kept n))) := by
  obtain ⟨k, rfl⟩ : ∃ n, k = n + 2 := ⟨k - 2, by omega⟩
  have go : ∀ c : Nat, c ≤ 8 → halberdref06_Cut.j1 (k + 1) c (U v) (U m) = some (U (lo v m &&& lowW (8 * c)), U (m &&& lowW (8 * c))) := by
    intro c hc
    simp only [halberdref06_Cut.j1]
    rw [if_pos (by decide)]
    refine cut_loop v m c hc _ _ (fun j hj => ?_) 64 k 0 _ _ (by omega) (by omega) (by simp) (by simp) (fun j hj => by omega) (fun j _ => rep_false 64 j)
    rw [BitVec.getLsbD_and, BitVec.getLsbD_and, lowW_bit _ _ hj]
    exact ⟨rfl, rfl⟩
  unfold halberdref06_Cut.f
  by_cases h1 : n = 1
  · subst h1; rw [if_pos rfl]; simp only [halberdref06_Cut.j0, Bool.false_eq_true, if_false]; exact go 1 (by omega)
  rw [if_neg h1]
  by_cases h2 : n = 2
  · subst h2; rw [if_pos rfl]; simp only [halberdref06_Cut.j0, Bool.false_eq_true, if_false]; exact go 2 (by omega)
  rw [if_neg h2]
  by_cases h4 : n = 4
  · subst h4
    have e : ((4 : Int) != 4) = false := rfl
    rw [e]; simp only [halberdref06_Cut.j0, Bool.false_eq_true, if_false]; exact go 4 (by omega)
  have e : (n != 4) = true := by simp [h4]
  have e2 : kept n = 8 * 8 := by unfold kept; rw [if_neg h1, if_neg h2, if_neg h4]
  rw [e, e2]
  simp only [halberdref06_Cut.j0, if_true]
  exact go 8 (by omega)

theorem TnumShifts : halberdlaw06_TnumShifts.Pure := by
  intro v m x n h1 h2 _
  obtain ⟨v, rfl⟩ := U_wf h1.1
  obtain ⟨m, rfl⟩ := U_wf h1.2
  obtain ⟨x, rfl⟩ := U_wf h2
  have hn := t_mod x
  refine ⟨400, ?_⟩
  unfold halberdlaw06_TnumShifts.f
  refine ask_ t_alive ?_
  refine have_ (t_lsh v m x) ?_
  refine have_ (shift_ref v m x 0 (by omega) 400 (by omega) _ _ (fun j hj => lsh_same v m _ (by omega) j hj)) ?_
  refine yes_ (by simp) ?_
  refine have_ (t_rsh v m x) ?_
  refine have_ (shift_ref v m x 1 (by omega) 400 (by omega) _ _ (fun j hj => rsh_same v m _ (by omega) j hj)) ?_
  refine yes_ (by simp) ?_
  refine have_ (t_arsh v m x) ?_
  refine have_ (shift_ref v m x 2 (by omega) 400 (by omega) _ _ (fun j hj => arsh_same v m _ (by omega) j hj)) ?_
  refine yes_ (by simp) ?_
  refine have_ (cut_prog v m n) ?_
  refine have_ (cut_ref v m n 400 (by omega)) ?_
  simp

end Go.Proofs.Yteckjmejngieeaa.Pure
