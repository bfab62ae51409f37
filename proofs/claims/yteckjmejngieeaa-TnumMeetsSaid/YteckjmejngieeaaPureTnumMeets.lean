/- What any two patterns have in common is the document's: just the numbers that both have; for all patterns and numbers. -/
import Derived.Test.YteckjmejngieeaaPTnumMeetsx5
import Derived.Test.YteckjmejngieeaaTB
set_option linter.unusedVariables false
set_option linter.unusedSimpArgs false
namespace Go.Proofs.Yteckjmejngieeaa.Pure
open Go.RowKit Go.Proofs.Yteckjmejngieeaa.PTnumMeets Go.Proofs.YteckjmejngieeaaW.PrintWords Go.Proofs.YteckjmejngieeaaW.PrintLast Go.Proofs.YteckjmejngieeaaW.PrintMore Go.Proofs.Yteckjmejngieeaa.HB Go.Proofs.Yteckjmejngieeaa.TB

theorem t_alive : halberdlaw06_alive.f = some true := by decide +kernel
theorem t_right (v m : W) : tnum_right.f (U v) (U m) = some (U (lo v m), U m) := by
  unfold tnum_right.f lo
  rw [U_andNot]
theorem t_has (v m x : W) : tnum_Has.f (U v) (U m) (U x) = some (decide (Has v m x)) := by
  unfold tnum_Has.f
  rw [t_right]
  simp only [Option.bind_some, U_andNot]
  congr 1
  rw [Bool.eq_iff_iff]
  simp only [beq_iff_eq, U_inj, decide_eq_true_eq]
  rfl
theorem t_has_yes {v m x : W} (h : Has v m x) : tnum_Has.f (U v) (U m) (U x) = some true := by
  rw [t_has, decide_eq_true h]
/-! ### The document's way: bit by bit -/
/-- Bit number i of a whole number. -/
def ib (x : W) (i : Nat) : Bool := x.getLsbD i
theorem U_half (x : W) : IntKind.u64.wrap (Int.tdiv (U x) 2) = U (x >>> 1) := by
  rw [Int.tdiv_eq_ediv_of_nonneg (U_lo x), wrap_u64_id (by have := U_lo x; omega) (by have := U_hi x; omega)]
  have := U_shr x 1 (by decide) (by decide)
  unfold shr at this
  exact this
theorem U_odd (x : W) : Int.tmod (U x) 2 = if x.getLsbD 0 = true then 1 else 0 := by
  rw [Int.tmod_eq_emod_of_nonneg (U_lo x)]
  unfold U
  have e : x.getLsbD 0 = decide (x.toNat % 2 = 1) := by
    rw [← BitVec.testBit_toNat, Nat.testBit_zero]
  rw [e]
  by_cases h : x.toNat % 2 = 1
  · rw [if_pos (by simpa using h)]; omega
  · rw [if_neg (by simpa using h)]; omega
theorem bit_loop (v m : W) (i : Nat) (hi : i ≤ 64) : ∀ (d k j : Nat), j + d = i → d < k →
    halberdref06_Bit.l0 k i (U (m >>> j)) (U (v >>> j)) j = some (m.getLsbD i || !v.getLsbD i, m.getLsbD i || v.getLsbD i) := by
  intro d
  induction d with
  | zero =>
    intro k j hj hk
    obtain ⟨k, rfl⟩ : ∃ n, k = n + 1 := ⟨k - 1, by omega⟩
    obtain rfl : j = i := by omega
    simp only [halberdref06_Bit.l0]
    rw [if_neg (by omega), U_odd, U_odd, BitVec.getLsbD_ushiftRight, BitVec.getLsbD_ushiftRight, Nat.add_zero]
    cases hm : m.getLsbD j <;> cases hv : v.getLsbD j <;> simp
  | succ d ih =>
    intro k j hj hk
    obtain ⟨k, rfl⟩ : ∃ n, k = n + 1 := ⟨k - 1, by omega⟩
    simp only [halberdref06_Bit.l0]
    have e3 : wrap64 ((j : Int) + 1) = ((j + 1 : Nat) : Int) := by unfold wrap64; omega
    rw [if_pos (by omega), U_half, U_half, e3, ← BitVec.shiftRight_add, ← BitVec.shiftRight_add]
    exact ih k (j + 1) (by omega) (by omega)
theorem bit_val (v m : W) (i k : Nat) (hi : i ≤ 64) (hk : i < k) : halberdref06_Bit.f k (U v) (U m) i = some (m.getLsbD i || !v.getLsbD i, m.getLsbD i || v.getLsbD i) := by
  unfold halberdref06_Bit.f
  have := bit_loop v m i hi i k 0 (by omega) hk
  simpa using this
theorem rhas_loop (v m x : W) : ∀ (d k j : Nat), j + d = 64 → d + 65 < k →
    ∃ r, halberdref06_Has.l0 k (U (x >>> j)) j (U v) (U m) = some r ∧ (r = true ↔ ∀ i, i < 64 → j ≤ i → (x.getLsbD i && !m.getLsbD i) = (v.getLsbD i && !m.getLsbD i)) := by
  intro d
  induction d with
  | zero =>
    intro k j hj hk
    obtain ⟨k, rfl⟩ : ∃ n, k = n + 1 := ⟨k - 1, by omega⟩
    refine ⟨true, ?_, by simp; intro i h1 h2; omega⟩
    simp only [halberdref06_Has.l0]
    rw [if_neg (by omega)]
  | succ d ih =>
    intro k j hj hk
    obtain ⟨k, rfl⟩ : ∃ n, k = n + 1 := ⟨k - 1, by omega⟩
    obtain ⟨r, hr, hiff⟩ := ih k (j + 1) (by omega) (by omega)
    simp only [halberdref06_Has.l0]
    have e3 : wrap64 ((j : Int) + 1) = ((j + 1 : Nat) : Int) := by unfold wrap64; omega
    rw [if_pos (by omega), bit_val v m j k (by omega) (by omega), U_half, e3, ← BitVec.shiftRight_add, hr, U_odd, BitVec.getLsbD_ushiftRight, Nat.add_zero]
    simp only [Option.bind_some]
    by_cases hb : (x.getLsbD j && !m.getLsbD j) = (v.getLsbD j && !m.getLsbD j)
    · refine ⟨r, ?_, ?_⟩
      · clear hiff hr ih
        revert hb
        cases x.getLsbD j <;> cases m.getLsbD j <;> cases v.getLsbD j <;> simp
      · rw [hiff]
        constructor
        · intro h i h1 h2
          by_cases hij : i = j
          · subst hij; exact hb
          · exact h i h1 (by omega)
        · intro h i h1 h2
          exact h i h1 (by omega)
    · refine ⟨false, ?_, ?_⟩
      · clear hiff hr ih
        revert hb
        cases x.getLsbD j <;> cases m.getLsbD j <;> cases v.getLsbD j <;> simp
      · constructor
        · intro h; exact absurd h (by simp)
        · intro h; exact absurd (h j (by omega) (Nat.le_refl j)) hb
theorem rhas_val (v m x : W) (k : Nat) (hk : 129 < k) : halberdref06_Has.f k (U v) (U m) (U x) = some (decide (Has v m x)) := by
  unfold halberdref06_Has.f
  obtain ⟨r, hr, hiff⟩ := rhas_loop v m x 64 k 0 (by omega) (by omega)
  have e0 : x >>> 0 = x := by simp
  rw [e0, show ((0 : Nat) : Int) = 0 from rfl] at hr
  rw [hr]
  congr 1
  rw [Bool.eq_iff_iff, hiff, decide_eq_true_eq]
  constructor
  · intro h; exact has_of fun i hi => h i hi (Nat.zero_le i)
  · intro h i hi _; exact has_bit h hi
/-! ### Lists of bits, put together -/
theorem rdOf_at (l : List Bool) (i : Nat) : rdOf false l (i : Int) = l.getD i false := by
  unfold rdOf
  rw [Int.toNat_natCast]
theorem U_twice (i : Nat) (hi : i < 64) : IntKind.u64.wrap (2 * U (1#64 <<< i)) = U (1#64 <<< (i + 1)) := by
  unfold U
  rw [IntKind.wrap_u64, BitVec.toNat_shiftLeft, BitVec.toNat_shiftLeft, Nat.shiftLeft_eq, Nat.shiftLeft_eq, Nat.pow_succ]
  have : (2 : Nat) ^ i < 2 ^ 64 := Nat.pow_lt_pow_right (by decide) hi
  have e : (1#64).toNat = 1 := rfl
  rw [e, Nat.one_mul, Nat.one_mul, Nat.mod_eq_of_lt this]
  omega
theorem add_bit (x : W) (i : Nat) (hi : i < 64) (h : ∀ j, i ≤ j → x.getLsbD j = false) : x + 1#64 <<< i = x ||| 1#64 <<< i := by
  refine BitVec.add_eq_or_of_and_eq_zero _ _ ?_
  apply BitVec.eq_of_getLsbD_eq
  intro j hj
  rw [BitVec.getLsbD_and, BitVec.getLsbD_zero, BitVec.getLsbD_shiftLeft]
  by_cases hij : j < i
  · simp [hij]
  · rw [h j (by omega)]; rfl
theorem one_bit (i j : Nat) (hj : j < 64) : (1#64 <<< i).getLsbD j = decide (i = j) := by
  rw [BitVec.getLsbD_shiftLeft]
  by_cases hij : j < i
  · simp [hij]; omega
  · simp [hij, hj]
    constructor <;> intro h <;> omega
theorem of_loop (zl ol : List Bool) (hz : zl.length = 64) (ho : ol.length = 64) : ∀ (d k i : Nat) (V M : W), i + d = 64 → 2 * d < k → (∀ j, i ≤ j → V.getLsbD j = false) → (∀ j, i ≤ j → M.getLsbD j = false) →
    ∃ V' M' : W, halberdref06_Of.l0 k zl ol (U (1#64 <<< i)) i (U V) (U M) = some (U V', U M') ∧ (∀ j, j < i → V'.getLsbD j = V.getLsbD j ∧ M'.getLsbD j = M.getLsbD j) ∧
      ∀ j, i ≤ j → j < 64 → M'.getLsbD j = (zl.getD j false && ol.getD j false) ∧ V'.getLsbD j = (ol.getD j false && !zl.getD j false) := by
  intro d
  induction d with
  | zero =>
    intro k i V M hi hk hV hM
    obtain ⟨k, rfl⟩ : ∃ n, k = n + 1 := ⟨k - 1, by omega⟩
    refine ⟨V, M, ?_, fun j hj => ⟨rfl, rfl⟩, fun j h1 h2 => by omega⟩
    simp only [halberdref06_Of.l0]
    rw [if_neg (by omega)]
  | succ d ih =>
    intro k i V M hi hk hV hM
    obtain ⟨k, rfl⟩ : ∃ n, k = n + 2 := ⟨k - 2, by omega⟩
    have hi64 : i < 64 := by omega
    have e3 : wrap64 ((i : Int) + 1) = ((i + 1 : Nat) : Int) := by unfold wrap64; omega
    have step : ∀ (V2 M2 : W), (∀ j, i + 1 ≤ j → V2.getLsbD j = false) → (∀ j, i + 1 ≤ j → M2.getLsbD j = false) → (∀ j, j < i → V2.getLsbD j = V.getLsbD j ∧ M2.getLsbD j = M.getLsbD j) →
        M2.getLsbD i = (zl.getD i false && ol.getD i false) → V2.getLsbD i = (ol.getD i false && !zl.getD i false) →
        halberdref06_Of.l0 (k + 2) zl ol (U (1#64 <<< i)) i (U V) (U M) = halberdref06_Of.l0 k zl ol (IntKind.u64.wrap (2 * U (1#64 <<< i))) (wrap64 ((i : Int) + 1)) (U V2) (U M2) →
        ∃ V' M' : W, halberdref06_Of.l0 (k + 2) zl ol (U (1#64 <<< i)) i (U V) (U M) = some (U V', U M') ∧ (∀ j, j < i → V'.getLsbD j = V.getLsbD j ∧ M'.getLsbD j = M.getLsbD j) ∧
          ∀ j, i ≤ j → j < 64 → M'.getLsbD j = (zl.getD j false && ol.getD j false) ∧ V'.getLsbD j = (ol.getD j false && !zl.getD j false) := by
      intro V2 M2 a1 a2 a3 a4 a5 a6
      obtain ⟨V', M', b1, b2, b3⟩ := ih k (i + 1) V2 M2 (by omega) (by omega) a1 a2
      rw [U_twice i hi64, e3] at a6
      refine ⟨V', M', a6.trans b1, fun j hj => ?_, fun j h1 h2 => ?_⟩
      · exact ⟨(b2 j (by omega)).1.trans (a3 j hj).1, (b2 j (by omega)).2.trans (a3 j hj).2⟩
      · by_cases hij : j = i
        · subst hij
          exact ⟨(b2 j (by omega)).2.trans a4, (b2 j (by omega)).1.trans a5⟩
        · exact b3 j (by omega) h2
    have hset : ∀ X : W, (∀ j, i ≤ j → X.getLsbD j = false) → (∀ j, i + 1 ≤ j → (X ||| 1#64 <<< i).getLsbD j = false) ∧ (∀ j, j < i → (X ||| 1#64 <<< i).getLsbD j = X.getLsbD j) ∧ (X ||| 1#64 <<< i).getLsbD i = true := by
      intro X hX
      refine ⟨fun j hj => ?_, fun j hj => ?_, ?_⟩
      · rw [BitVec.getLsbD_or, hX j (by omega)]
        by_cases hj64 : j < 64
        · rw [one_bit i j hj64]; simp; omega
        · rw [ge64 _ hj64]; rfl
      · rw [BitVec.getLsbD_or, one_bit i j (by omega), decide_eq_false (by omega)]; simp
      · rw [BitVec.getLsbD_or, one_bit i i hi64]; simp
    obtain ⟨v1, v2, v3⟩ := hset V hV
    obtain ⟨m1, m2, m3⟩ := hset M hM
    have q0 : (0 : Int) ≤ (i : Int) := by omega
    have q1 : (i : Int) < 64 := by omega
    have qz : (i : Int) < (zl.length : Int) := by omega
    have qo : (i : Int) < (ol.length : Int) := by omega
    cases hzz : zl.getD i false
    · cases hoo : ol.getD i false
      · refine step V M (fun j hj => hV j (by omega)) (fun j hj => hM j (by omega)) (fun j hj => ⟨rfl, rfl⟩) (by rw [hzz, hoo, hM i (Nat.le_refl i)]; rfl) (by rw [hzz, hoo, hV i (Nat.le_refl i)]; rfl) ?_
        simp only [halberdref06_Of.l0, halberdref06_Of.j1, rdOf_at, hzz, hoo, if_pos q1, if_pos q0, if_pos qz, if_pos qo, if_true, if_false, Bool.false_eq_true]
      · refine step (V ||| 1#64 <<< i) M v1 (fun j hj => hM j (by omega)) (fun j hj => ⟨v2 j hj, rfl⟩) (by rw [hzz, hoo, hM i (Nat.le_refl i)]; rfl) (by rw [hzz, hoo, v3]; rfl) ?_
        simp only [halberdref06_Of.l0, halberdref06_Of.j1, rdOf_at, hzz, hoo, if_pos q1, if_pos q0, if_pos qz, if_pos qo, if_true, if_false, Bool.false_eq_true, U_add, add_bit V i hi64 hV]
    · cases hoo : ol.getD i false
      · refine step V M (fun j hj => hV j (by omega)) (fun j hj => hM j (by omega)) (fun j hj => ⟨rfl, rfl⟩) (by rw [hzz, hoo, hM i (Nat.le_refl i)]; rfl) (by rw [hzz, hoo, hV i (Nat.le_refl i)]; rfl) ?_
        simp only [halberdref06_Of.l0, halberdref06_Of.j1, rdOf_at, hzz, hoo, if_pos q1, if_pos q0, if_pos qz, if_pos qo, if_true, if_false, Bool.false_eq_true]
      · refine step V (M ||| 1#64 <<< i) (fun j hj => hV j (by omega)) m1 (fun j hj => ⟨rfl, m2 j hj⟩) (by rw [hzz, hoo, m3]; rfl) (by rw [hzz, hoo, hV i (Nat.le_refl i)]; rfl) ?_
        simp only [halberdref06_Of.l0, halberdref06_Of.j1, rdOf_at, hzz, hoo, if_pos q1, if_pos q0, if_pos qz, if_pos qo, if_true, if_false, Bool.false_eq_true, U_add, add_bit M i hi64 hM]
theorem of_val (zl ol : List Bool) (hz : zl.length = 64) (ho : ol.length = 64) (k : Nat) (hk : 128 < k) (V M : W)
    (h : ∀ j, j < 64 → M.getLsbD j = (zl.getD j false && ol.getD j false) ∧ V.getLsbD j = (ol.getD j false && !zl.getD j false)) : halberdref06_Of.f k zl ol = some (U V, U M) := by
  unfold halberdref06_Of.f
  obtain ⟨V', M', h1, _, h3⟩ := of_loop zl ol hz ho 64 k 0 0#64 0#64 (by omega) (by omega) (fun j _ => by simp) (fun j _ => by simp)
  have e1 : V' = V := BitVec.eq_of_getLsbD_eq fun i hi => ((h3 i (Nat.zero_le i) hi).2).trans (h i hi).2.symm
  have e2 : M' = M := BitVec.eq_of_getLsbD_eq fun i hi => ((h3 i (Nat.zero_le i) hi).1).trans (h i hi).1.symm
  rw [← e1, ← e2]
  exact h1
theorem getD_set (l : List Bool) (i j : Nat) (b : Bool) (hi : i < l.length) : (l.set i b).getD j false = if j = i then b else l.getD j false := by
  by_cases h : j = i
  · subst h
    rw [if_pos rfl, List.getD_eq_getElem?_getD, List.getElem?_set_self hi]; rfl
  · rw [if_neg h, List.getD_eq_getElem?_getD, List.getElem?_set_ne (Ne.symm h), ← List.getD_eq_getElem?_getD]
/-! ### What two patterns have in common -/
/-- May bit i be 0, may it be 1? -/
def mz (v m : W) (i : Nat) : Bool := m.getLsbD i || !v.getLsbD i
def mo (v m : W) (i : Nat) : Bool := m.getLsbD i || v.getLsbD i
def clash (va ma vb mb : W) (i : Nat) : Bool := !(mz va ma i && mz vb mb i) && !(mo va ma i && mo vb mb i)
theorem rmeet_loop (va ma vb mb : W) : ∀ (d k i : Nat) (zl ol : List Bool), i + d = 64 → d + 140 < k → zl.length = 64 → ol.length = 64 →
    (∀ j, j < i → zl.getD j false = (mz va ma j && mz vb mb j) ∧ ol.getD j false = (mo va ma j && mo vb mb j)) →
    ((∃ j, i ≤ j ∧ j < 64 ∧ clash va ma vb mb j = true) ∧ halberdref06_Meet.l0 k zl ol i (U va) (U ma) (U vb) (U mb) = some (0, 18446744073709551615, false)) ∨
    ((∀ j, i ≤ j → j < 64 → clash va ma vb mb j = false) ∧ ∃ V M : W, halberdref06_Meet.l0 k zl ol i (U va) (U ma) (U vb) (U mb) = some (U V, U M, true) ∧
      ∀ j, j < 64 → M.getLsbD j = ((mz va ma j && mz vb mb j) && (mo va ma j && mo vb mb j)) ∧ V.getLsbD j = ((mo va ma j && mo vb mb j) && !(mz va ma j && mz vb mb j))) := by
  intro d
  induction d with
  | zero =>
    intro k i zl ol hi hk hz ho hl
    obtain ⟨k, rfl⟩ : ∃ n, k = n + 1 := ⟨k - 1, by omega⟩
    right
    refine ⟨fun j h1 h2 => by omega, ?_⟩
    obtain ⟨V', M', h1, _, h3⟩ := of_loop zl ol hz ho 64 k 0 0#64 0#64 (by omega) (by omega) (fun j _ => by simp) (fun j _ => by simp)
    refine ⟨V', M', ?_, fun j hj => ?_⟩
    · simp only [halberdref06_Meet.l0]
      rw [if_neg (by omega)]
      have e : halberdref06_Of.f k zl ol = some (U V', U M') := h1
      rw [e]; rfl
    · have := h3 j (Nat.zero_le j) hj
      rw [(hl j (by omega)).1, (hl j (by omega)).2] at this
      exact this
  | succ d ih =>
    intro k i zl ol hi hk hz ho hl
    obtain ⟨k, rfl⟩ : ∃ n, k = n + 1 := ⟨k - 1, by omega⟩
    have hi64 : i < 64 := by omega
    have e3 : wrap64 ((i : Int) + 1) = ((i + 1 : Nat) : Int) := by unfold wrap64; omega
    have unf : halberdref06_Meet.l0 (k + 1) zl ol i (U va) (U ma) (U vb) (U mb) =
        if (mz va ma i && mz vb mb i) = true ∨ (mo va ma i && mo vb mb i) = true then halberdref06_Meet.l0 k (zl.set i (mz va ma i && mz vb mb i)) (ol.set i (mo va ma i && mo vb mb i)) ((i + 1 : Nat) : Int) (U va) (U ma) (U vb) (U mb)
        else some (0, 18446744073709551615, false) := by
      have b1 := bit_val va ma i k (by omega) (by omega)
      have b2 := bit_val vb mb i k (by omega) (by omega)
      have q1 : mz va ma i = (ma.getLsbD i || !va.getLsbD i) := rfl
      have q2 : mz vb mb i = (mb.getLsbD i || !vb.getLsbD i) := rfl
      have q3 : mo va ma i = (ma.getLsbD i || va.getLsbD i) := rfl
      have q4 : mo vb mb i = (mb.getLsbD i || vb.getLsbD i) := rfl
      rw [← q1, ← q3] at b1
      rw [← q2, ← q4] at b2
      clear q1 q2 q3 q4
      simp only [halberdref06_Meet.l0]
      rw [if_pos (by omega), b1]
      simp only [Option.bind_some]
      rw [b2]
      simp only [Option.bind_some, e3, Int.toNat_natCast, rdOf_at]
      have hi0 : (0 : Int) ≤ (i : Int) := by omega
      have hiz : (i : Int) < (zl.length : Int) := by omega
      have hio : (i : Int) < (ol.length : Int) := by omega
      simp only [if_pos hi0, if_pos hiz, if_pos hio, getD_set _ i i _ (show i < zl.length by omega), getD_set _ i i _ (show i < ol.length by omega), if_true]
      cases mz va ma i <;> cases mo va ma i <;> cases mz vb mb i <;> cases mo vb mb i <;> simp
    rw [unf]
    by_cases hc : (mz va ma i && mz vb mb i) = true ∨ (mo va ma i && mo vb mb i) = true
    · rw [if_pos hc]
      have hno : clash va ma vb mb i = false := by
        unfold clash
        rcases hc with h | h <;> rw [h] <;> simp
      rcases ih k (i + 1) (zl.set i (mz va ma i && mz vb mb i)) (ol.set i (mo va ma i && mo vb mb i)) (by omega) (by omega) (by simpa using hz) (by simpa using ho) (fun j hj => by
        rw [getD_set _ _ _ _ (by omega), getD_set _ _ _ _ (by omega)]
        by_cases hij : j = i
        · subst hij; rw [if_pos rfl, if_pos rfl]; exact ⟨rfl, rfl⟩
        · rw [if_neg hij, if_neg hij]; exact hl j (by omega)) with ⟨⟨j, h1, h2, h3⟩, h4⟩ | ⟨h1, h2⟩
      · exact Or.inl ⟨⟨j, by omega, h2, h3⟩, h4⟩
      · refine Or.inr ⟨fun j h3 h4 => ?_, h2⟩
        by_cases hij : j = i
        · subst hij; exact hno
        · exact h1 j (by omega) h4
    · rw [if_neg hc]
      refine Or.inl ⟨⟨i, Nat.le_refl i, hi64, ?_⟩, rfl⟩
      unfold clash
      revert hc
      cases (mz va ma i && mz vb mb i) <;> cases (mo va ma i && mo vb mb i) <;> simp
/-- What both have in common: the pattern. -/
def meetV (va ma vb mb : W) : W := lo (lo va ma ||| lo vb mb) (ma &&& mb)
def meets (va ma vb mb : W) : Prop := (lo va ma ^^^ lo vb mb) &&& ~~~(ma ||| mb) = 0#64
theorem meets_iff (va ma vb mb : W) : meets va ma vb mb ↔ ∀ j, j < 64 → clash va ma vb mb j = false := by
  constructor
  · intro h j hj
    have := congrArg (fun b => BitVec.getLsbD b j) h
    simp only [BitVec.getLsbD_and, BitVec.getLsbD_xor, BitVec.getLsbD_not, BitVec.getLsbD_or, lo_bit _ _ hj, hj, decide_true, Bool.true_and, BitVec.getLsbD_zero] at this
    unfold clash mz mo
    revert this
    cases va.getLsbD j <;> cases ma.getLsbD j <;> cases vb.getLsbD j <;> cases mb.getLsbD j <;> simp
  · intro h
    apply BitVec.eq_of_getLsbD_eq
    intro j hj
    have := h j hj
    simp only [BitVec.getLsbD_and, BitVec.getLsbD_xor, BitVec.getLsbD_not, BitVec.getLsbD_or, lo_bit _ _ hj, hj, decide_true, Bool.true_and, BitVec.getLsbD_zero]
    unfold clash mz mo at this
    revert this
    cases va.getLsbD j <;> cases ma.getLsbD j <;> cases vb.getLsbD j <;> cases mb.getLsbD j <;> simp
theorem meet_prog_yes {va ma vb mb : W} (h : meets va ma vb mb) : tnum_Meet.f (U va) (U ma) (U vb) (U mb) = some (U (meetV va ma vb mb), U (ma &&& mb), true) := by
  unfold tnum_Meet.f
  simp only [t_right, Option.bind_some, U_xor, U_or, U_andNot, U_and]
  have e : U ((lo va ma ^^^ lo vb mb) &&& ~~~(ma ||| mb)) = 0 := by rw [U_zero, U_inj]; exact h
  rw [if_pos e]
  rfl
theorem meet_prog_no {va ma vb mb : W} (h : ¬ meets va ma vb mb) : tnum_Meet.f (U va) (U ma) (U vb) (U mb) = some (0, 18446744073709551615, false) := by
  unfold tnum_Meet.f
  simp only [t_right, Option.bind_some, U_xor, U_or, U_andNot, U_and]
  have e : ¬ U ((lo va ma ^^^ lo vb mb) &&& ~~~(ma ||| mb)) = 0 := by rw [U_zero, U_inj]; exact h
  rw [if_neg e]
  rfl
theorem meet_ref_yes {va ma vb mb : W} (h : meets va ma vb mb) (k : Nat) (hk : 204 < k) : halberdref06_Meet.f k (U va) (U ma) (U vb) (U mb) = some (U (meetV va ma vb mb), U (ma &&& mb), true) := by
  unfold halberdref06_Meet.f
  rw [if_pos (by decide)]
  have hc := (meets_iff _ _ _ _).1 h
  rcases rmeet_loop va ma vb mb 64 k 0 (List.replicate 64 false) (List.replicate 64 false) (by omega) (by omega) (by simp) (by simp) (fun j hj => by omega) with ⟨⟨j, h1, h2, h3⟩, _⟩ | ⟨_, V, M, h2, h3⟩
  · rw [hc j h2] at h3; exact absurd h3 (by simp)
  · have e1 : V = meetV va ma vb mb := by
      apply BitVec.eq_of_getLsbD_eq
      intro j hj
      rw [(h3 j hj).2]
      have := hc j hj
      unfold meetV
      rw [lo_bit _ _ hj, BitVec.getLsbD_or, BitVec.getLsbD_and, lo_bit _ _ hj, lo_bit _ _ hj]
      unfold clash at this
      unfold mz mo at *
      revert this
      cases va.getLsbD j <;> cases ma.getLsbD j <;> cases vb.getLsbD j <;> cases mb.getLsbD j <;> simp
    have e2 : M = ma &&& mb := by
      apply BitVec.eq_of_getLsbD_eq
      intro j hj
      rw [(h3 j hj).1, BitVec.getLsbD_and]
      unfold mz mo
      cases va.getLsbD j <;> cases ma.getLsbD j <;> cases vb.getLsbD j <;> cases mb.getLsbD j <;> simp
    rw [← e1, ← e2]
    exact h2
theorem meet_ref_no {va ma vb mb : W} (h : ¬ meets va ma vb mb) (k : Nat) (hk : 204 < k) : halberdref06_Meet.f k (U va) (U ma) (U vb) (U mb) = some (0, 18446744073709551615, false) := by
  unfold halberdref06_Meet.f
  rw [if_pos (by decide)]
  rcases rmeet_loop va ma vb mb 64 k 0 (List.replicate 64 false) (List.replicate 64 false) (by omega) (by omega) (by simp) (by simp) (fun j hj => by omega) with ⟨_, h4⟩ | ⟨h1, _⟩
  · exact h4
  · exact absurd ((meets_iff _ _ _ _).2 (fun j hj => h1 j (Nat.zero_le j) hj)) h
theorem meet_has {va ma vb mb : W} (h : meets va ma vb mb) (x : W) : Has (meetV va ma vb mb) (ma &&& mb) x ↔ Has va ma x ∧ Has vb mb x := by
  have hc := (meets_iff _ _ _ _).1 h
  constructor
  · intro hx
    refine ⟨has_of fun j hj => ?_, has_of fun j hj => ?_⟩ <;>
    · have a1 := has_bit hx hj
      have a2 := hc j hj
      unfold meetV at a1
      unfold clash mz mo at a2
      rw [lo_bit _ _ hj, BitVec.getLsbD_or, BitVec.getLsbD_and, lo_bit _ _ hj, lo_bit _ _ hj] at a1
      revert a1 a2
      cases x.getLsbD j <;> cases va.getLsbD j <;> cases ma.getLsbD j <;> cases vb.getLsbD j <;> cases mb.getLsbD j <;> simp
  · rintro ⟨h1, h2⟩
    refine has_of fun j hj => ?_
    have a1 := has_bit h1 hj
    have a2 := has_bit h2 hj
    unfold meetV
    rw [lo_bit _ _ hj, BitVec.getLsbD_or, BitVec.getLsbD_and, lo_bit _ _ hj, lo_bit _ _ hj]
    revert a1 a2
    cases x.getLsbD j <;> cases va.getLsbD j <;> cases ma.getLsbD j <;> cases vb.getLsbD j <;> cases mb.getLsbD j <;> simp
theorem meets_of_has {va ma vb mb x : W} (h1 : Has va ma x) (h2 : Has vb mb x) : meets va ma vb mb := by
  rw [meets_iff]
  intro j hj
  have a1 := has_bit h1 hj
  have a2 := has_bit h2 hj
  unfold clash mz mo
  revert a1 a2
  cases x.getLsbD j <;> cases va.getLsbD j <;> cases ma.getLsbD j <;> cases vb.getLsbD j <;> cases mb.getLsbD j <;> simp
theorem TnumMeets : halberdlaw06_TnumMeets.Pure := by
  intro va ma vb mb x h1 h2 h3
  obtain ⟨va, rfl⟩ := U_wf h1.1
  obtain ⟨ma, rfl⟩ := U_wf h1.2
  obtain ⟨vb, rfl⟩ := U_wf h2.1
  obtain ⟨mb, rfl⟩ := U_wf h2.2
  obtain ⟨x, rfl⟩ := U_wf h3
  refine ⟨301, ?_⟩
  unfold halberdlaw06_TnumMeets.f
  refine ask_ t_alive ?_
  by_cases h : meets va ma vb mb
  · refine have_ (meet_prog_yes h) ?_
    refine have_ (meet_ref_yes h 301 (by omega)) ?_
    refine no_ (by simp) ?_
    simp only [halberdlaw06_TnumMeets.j0]
    refine no_ (by simp) ?_
    refine have_ (rhas_val va ma x 300 (by omega)) ?_
    by_cases a1 : Has va ma x
    · refine yes_ (decide_eq_true a1) ?_
      refine have_ (rhas_val vb mb x 300 (by omega)) ?_
      refine yes_ (by simp) ?_
      refine have_ (t_has _ _ x) ?_
      have e : (Has (meetV va ma vb mb) (ma &&& mb) x) ↔ Has vb mb x := by rw [meet_has h]; exact ⟨fun q => q.2, fun q => ⟨a1, q⟩⟩
      simp [e]
    · refine no_ (by simp [a1]) ?_
      refine yes_ (by simp) ?_
      refine have_ (t_has _ _ x) ?_
      have e : ¬ (Has (meetV va ma vb mb) (ma &&& mb) x) := by rw [meet_has h]; exact fun q => a1 q.1
      simp [e]
  · refine have_ (meet_prog_no h) ?_
    refine have_ (meet_ref_no h 301 (by omega)) ?_
    refine no_ (by simp) ?_
    simp only [halberdlaw06_TnumMeets.j0]
    refine no_ (by simp) ?_
    refine have_ (rhas_val va ma x 300 (by omega)) ?_
    by_cases a1 : Has va ma x
    · refine yes_ (decide_eq_true a1) ?_
      refine have_ (rhas_val vb mb x 300 (by omega)) ?_
      refine no_ (by simp) ?_
      have e : ¬ Has vb mb x := fun q => h (meets_of_has a1 q)
      simp [e]
    · refine no_ (by simp [a1]) ?_
      refine no_ (by simp) ?_
      rfl

end Go.Proofs.Yteckjmejngieeaa.Pure
