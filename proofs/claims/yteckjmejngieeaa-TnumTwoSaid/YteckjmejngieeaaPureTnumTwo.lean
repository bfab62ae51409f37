/- What any two patterns tell together is the document's, bit by bit: the carries that there may be are those of the least and of the greatest numbers; for all patterns. -/
import Derived.Test.YteckjmejngieeaaPTnumTwox6
import Derived.Test.YteckjmejngieeaaTB
set_option linter.unusedVariables false
set_option linter.unusedSimpArgs false
namespace Go.Proofs.Yteckjmejngieeaa.Pure
open Go.RowKit Go.Proofs.Yteckjmejngieeaa.PTnumTwo Go.Proofs.YteckjmejngieeaaW.PrintWords Go.Proofs.YteckjmejngieeaaW.PrintLast Go.Proofs.YteckjmejngieeaaW.PrintMore Go.Proofs.Yteckjmejngieeaa.HB Go.Proofs.Yteckjmejngieeaa.TB

theorem t_alive : halberdlaw06_alive.f = some true := by decide +kernel
theorem t_right (v m : W) : tnum_right.f (U v) (U m) = some (U (lo v m), U m) := by
  unfold tnum_right.f lo
  rw [U_andNot]
theorem t_add (va ma vb mb : W) : tnum_Add.f (U va) (U ma) (U vb) (U mb) = some (U (lo (lo va ma + lo vb mb) (addMask va ma vb mb)), U (addMask va ma vb mb)) := by
  unfold tnum_Add.f
  simp only [t_right, Option.bind_some, U_add, U_xor, U_or]
  rfl
theorem t_sub (va ma vb mb : W) : tnum_Sub.f (U va) (U ma) (U vb) (U mb) = some (U (lo (lo va ma - lo vb mb) (subMask va ma vb mb)), U (subMask va ma vb mb)) := by
  unfold tnum_Sub.f
  simp only [t_right, Option.bind_some, U_sub, U_add, U_xor, U_or]
  rfl
theorem t_and (va ma vb mb : W) : tnum_And.f (U va) (U ma) (U vb) (U mb) = some (U (lo va ma &&& lo vb mb), U (((lo va ma ||| ma) &&& (lo vb mb ||| mb)) &&& ~~~(lo va ma &&& lo vb mb))) := by
  unfold tnum_And.f
  simp only [t_right, Option.bind_some, U_and, U_or, U_andNot]
theorem t_or (va ma vb mb : W) : tnum_Or.f (U va) (U ma) (U vb) (U mb) = some (U (lo va ma ||| lo vb mb), U ((ma ||| mb) &&& ~~~(lo va ma ||| lo vb mb))) := by
  unfold tnum_Or.f
  simp only [t_right, Option.bind_some, U_and, U_or, U_andNot]
theorem t_xor (va ma vb mb : W) : tnum_Xor.f (U va) (U ma) (U vb) (U mb) = some (U (lo (lo va ma ^^^ lo vb mb) (ma ||| mb)), U (ma ||| mb)) := by
  unfold tnum_Xor.f
  simp only [t_right, Option.bind_some, U_xor, U_or]
/-! ### The document's way: bit by bit -/
/-- Bit number i of a whole number. -/
def ib (x : W) (i : Nat) : Bool := x.getLsbD i
theorem U_half (x : W) : IntKind.u64.wrap (Int.tdiv (U x) 2) = U (x >>> 1) := by
  rw [Int.tdiv_eq_ediv_of_nonneg (U_lo x), wrap_u64_id (by have := U_lo x; omega) (by have := U_hi x; omega)]
  have := U_shr x 1 (by decide) (by decide)
  unfold shr at this
  exact this
theorem U_odd (x : W) : Int.tmod (U x) 2 = if x.getLsbD 0 = true then 1 else 0 := by
  rw [Int.tmod_eq_emod_of_nonneg (U_lo x)]
  unfold U
  have e : x.getLsbD 0 = decide (x.toNat % 2 = 1) := by
    rw [← BitVec.testBit_toNat, Nat.testBit_zero]
  rw [e]
  by_cases h : x.toNat % 2 = 1
  · rw [if_pos (by simpa using h)]; omega
  · rw [if_neg (by simpa using h)]; omega
theorem bit_loop (v m : W) (i : Nat) (hi : i ≤ 64) : ∀ (d k j : Nat), j + d = i → d < k →
    halberdref06_Bit.l0 k i (U (m >>> j)) (U (v >>> j)) j = some (m.getLsbD i || !v.getLsbD i, m.getLsbD i || v.getLsbD i) := by
  intro d
  induction d with
  | zero =>
    intro k j hj hk
    obtain ⟨k, rfl⟩ : ∃ n, k = n + 1 := ⟨k - 1, by omega⟩
    obtain rfl : j = i := by omega
    simp only [halberdref06_Bit.l0]
    rw [if_neg (by omega), U_odd, U_odd, BitVec.getLsbD_ushiftRight, BitVec.getLsbD_ushiftRight, Nat.add_zero]
    cases hm : m.getLsbD j <;> cases hv : v.getLsbD j <;> simp
  | succ d ih =>
    intro k j hj hk
    obtain ⟨k, rfl⟩ : ∃ n, k = n + 1 := ⟨k - 1, by omega⟩
    simp only [halberdref06_Bit.l0]
    have e3 : wrap64 ((j : Int) + 1) = ((j + 1 : Nat) : Int) := by unfold wrap64; omega
    rw [if_pos (by omega), U_half, U_half, e3, ← BitVec.shiftRight_add, ← BitVec.shiftRight_add]
    exact ih k (j + 1) (by omega) (by omega)
theorem bit_val (v m : W) (i k : Nat) (hi : i ≤ 64) (hk : i < k) : halberdref06_Bit.f k (U v) (U m) i = some (m.getLsbD i || !v.getLsbD i, m.getLsbD i || v.getLsbD i) := by
  unfold halberdref06_Bit.f
  have := bit_loop v m i hi i k 0 (by omega) hk
  simpa using this
/-! ### Lists of bits, put together -/
theorem rdOf_at (l : List Bool) (i : Nat) : rdOf false l (i : Int) = l.getD i false := by
  unfold rdOf
  rw [Int.toNat_natCast]
theorem U_twice (i : Nat) (hi : i < 64) : IntKind.u64.wrap (2 * U (1#64 <<< i)) = U (1#64 <<< (i + 1)) := by
  unfold U
  rw [IntKind.wrap_u64, BitVec.toNat_shiftLeft, BitVec.toNat_shiftLeft, Nat.shiftLeft_eq, Nat.shiftLeft_eq, Nat.pow_succ]
  have : (2 : Nat) ^ i < 2 ^ 64 := Nat.pow_lt_pow_right (by decide) hi
  have e : (1#64).toNat = 1 := rfl
  rw [e, Nat.one_mul, Nat.one_mul, Nat.mod_eq_of_lt this]
  omega
theorem add_bit (x : W) (i : Nat) (hi : i < 64) (h : ∀ j, i ≤ j → x.getLsbD j = false) : x + 1#64 <<< i = x ||| 1#64 <<< i := by
  refine BitVec.add_eq_or_of_and_eq_zero _ _ ?_
  apply BitVec.eq_of_getLsbD_eq
  intro j hj
  rw [BitVec.getLsbD_and, BitVec.getLsbD_zero, BitVec.getLsbD_shiftLeft]
  by_cases hij : j < i
  · simp [hij]
  · rw [h j (by omega)]; rfl
theorem one_bit (i j : Nat) (hj : j < 64) : (1#64 <<< i).getLsbD j = decide (i = j) := by
  rw [BitVec.getLsbD_shiftLeft]
  by_cases hij : j < i
  · simp [hij]; omega
  · simp [hij, hj]
    constructor <;> intro h <;> omega
theorem of_loop (zl ol : List Bool) (hz : zl.length = 64) (ho : ol.length = 64) : ∀ (d k i : Nat) (V M : W), i + d = 64 → 2 * d < k → (∀ j, i ≤ j → V.getLsbD j = false) → (∀ j, i ≤ j → M.getLsbD j = false) →
    ∃ V' M' : W, halberdref06_Of.l0 k zl ol (U (1#64 <<< i)) i (U V) (U M) = some (U V', U M') ∧ (∀ j, j < i → V'.getLsbD j = V.getLsbD j ∧ M'.getLsbD j = M.getLsbD j) ∧
      ∀ j, i ≤ j → j < 64 → M'.getLsbD j = (zl.getD j false && ol.getD j false) ∧ V'.getLsbD j = (ol.getD j false && !zl.getD j false) := by
  intro d
  induction d with
  | zero =>
    intro k i V M hi hk hV hM
    obtain ⟨k, rfl⟩ : ∃ n, k = n + 1 := ⟨k - 1, by omega⟩
    refine ⟨V, M, ?_, fun j hj => ⟨rfl, rfl⟩, fun j h1 h2 => by omega⟩
    simp only [halberdref06_Of.l0]
    rw [if_neg (by omega)]
  | succ d ih =>
    intro k i V M hi hk hV hM
    obtain ⟨k, rfl⟩ : ∃ n, k = n + 2 := ⟨k - 2, by omega⟩
    have hi64 : i < 64 := by omega
    have e3 : wrap64 ((i : Int) + 1) = ((i + 1 : Nat) : Int) := by unfold wrap64; omega
    have step : ∀ (V2 M2 : W), (∀ j, i + 1 ≤ j → V2.getLsbD j = false) → (∀ j, i + 1 ≤ j → M2.getLsbD j = false) → (∀ j, j < i → V2.getLsbD j = V.getLsbD j ∧ M2.getLsbD j = M.getLsbD j) →
        M2.getLsbD i = (zl.getD i false && ol.getD i false) → V2.getLsbD i = (ol.getD i false && !zl.getD i false) →
        halberdref06_Of.l0 (k + 2) zl ol (U (1#64 <<< i)) i (U V) (U M) = halberdref06_Of.l0 k zl ol (IntKind.u64.wrap (2 * U (1#64 <<< i))) (wrap64 ((i : Int) + 1)) (U V2) (U M2) →
        ∃ V' M' : W, halberdref06_Of.l0 (k + 2) zl ol (U (1#64 <<< i)) i (U V) (U M) = some (U V', U M') ∧ (∀ j, j < i → V'.getLsbD j = V.getLsbD j ∧ M'.getLsbD j = M.getLsbD j) ∧
          ∀ j, i ≤ j → j < 64 → M'.getLsbD j = (zl.getD j false && ol.getD j false) ∧ V'.getLsbD j = (ol.getD j false && !zl.getD j false) := by
      intro V2 M2 a1 a2 a3 a4 a5 a6
      obtain ⟨V', M', b1, b2, b3⟩ := ih k (i + 1) V2 M2 (by omega) (by omega) a1 a2
      rw [U_twice i hi64, e3] at a6
      refine ⟨V', M', a6.trans b1, fun j hj => ?_, fun j h1 h2 => ?_⟩
      · exact ⟨(b2 j (by omega)).1.trans (a3 j hj).1, (b2 j (by omega)).2.trans (a3 j hj).2⟩
      · by_cases hij : j = i
        · subst hij
          exact ⟨(b2 j (by omega)).2.trans a4, (b2 j (by omega)).1.trans a5⟩
        · exact b3 j (by omega) h2
    have hset : ∀ X : W, (∀ j, i ≤ j → X.getLsbD j = false) → (∀ j, i + 1 ≤ j → (X ||| 1#64 <<< i).getLsbD j = false) ∧ (∀ j, j < i → (X ||| 1#64 <<< i).getLsbD j = X.getLsbD j) ∧ (X ||| 1#64 <<< i).getLsbD i = true := by
      intro X hX
      refine ⟨fun j hj => ?_, fun j hj => ?_, ?_⟩
      · rw [BitVec.getLsbD_or, hX j (by omega)]
        by_cases hj64 : j < 64
        · rw [one_bit i j hj64]; simp; omega
        · rw [ge64 _ hj64]; rfl
      · rw [BitVec.getLsbD_or, one_bit i j (by omega), decide_eq_false (by omega)]; simp
      · rw [BitVec.getLsbD_or, one_bit i i hi64]; simp
    obtain ⟨v1, v2, v3⟩ := hset V hV
    obtain ⟨m1, m2, m3⟩ := hset M hM
    have q0 : (0 : Int) ≤ (i : Int) := by omega
    have q1 : (i : Int) < 64 := by omega
    have qz : (i : Int) < (zl.length : Int) := by omega
    have qo : (i : Int) < (ol.length : Int) := by omega
    cases hzz : zl.getD i false
    · cases hoo : ol.getD i false
      · refine step V M (fun j hj => hV j (by omega)) (fun j hj => hM j (by omega)) (fun j hj => ⟨rfl, rfl⟩) (by rw [hzz, hoo, hM i (Nat.le_refl i)]; rfl) (by rw [hzz, hoo, hV i (Nat.le_refl i)]; rfl) ?_
        simp only [halberdref06_Of.l0, halberdref06_Of.j1, rdOf_at, hzz, hoo, if_pos q1, if_pos q0, if_pos qz, if_pos qo, if_true, if_false, Bool.false_eq_true]
      · refine step (V ||| 1#64 <<< i) M v1 (fun j hj => hM j (by omega)) (fun j hj => ⟨v2 j hj, rfl⟩) (by rw [hzz, hoo, hM i (Nat.le_refl i)]; rfl) (by rw [hzz, hoo, v3]; rfl) ?_
        simp only [halberdref06_Of.l0, halberdref06_Of.j1, rdOf_at, hzz, hoo, if_pos q1, if_pos q0, if_pos qz, if_pos qo, if_true, if_false, Bool.false_eq_true, U_add, add_bit V i hi64 hV]
    · cases hoo : ol.getD i false
      · refine step V M (fun j hj => hV j (by omega)) (fun j hj => hM j (by omega)) (fun j hj => ⟨rfl, rfl⟩) (by rw [hzz, hoo, hM i (Nat.le_refl i)]; rfl) (by rw [hzz, hoo, hV i (Nat.le_refl i)]; rfl) ?_
        simp only [halberdref06_Of.l0, halberdref06_Of.j1, rdOf_at, hzz, hoo, if_pos q1, if_pos q0, if_pos qz, if_pos qo, if_true, if_false, Bool.false_eq_true]
      · refine step V (M ||| 1#64 <<< i) (fun j hj => hV j (by omega)) m1 (fun j hj => ⟨rfl, m2 j hj⟩) (by rw [hzz, hoo, m3]; rfl) (by rw [hzz, hoo, hV i (Nat.le_refl i)]; rfl) ?_
        simp only [halberdref06_Of.l0, halberdref06_Of.j1, rdOf_at, hzz, hoo, if_pos q1, if_pos q0, if_pos qz, if_pos qo, if_true, if_false, Bool.false_eq_true, U_add, add_bit M i hi64 hM]
theorem of_val (zl ol : List Bool) (hz : zl.length = 64) (ho : ol.length = 64) (k : Nat) (hk : 128 < k) (V M : W)
    (h : ∀ j, j < 64 → M.getLsbD j = (zl.getD j false && ol.getD j false) ∧ V.getLsbD j = (ol.getD j false && !zl.getD j false)) : halberdref06_Of.f k zl ol = some (U V, U M) := by
  unfold halberdref06_Of.f
  obtain ⟨V', M', h1, _, h3⟩ := of_loop zl ol hz ho 64 k 0 0#64 0#64 (by omega) (by omega) (fun j _ => by simp) (fun j _ => by simp)
  have e1 : V' = V := BitVec.eq_of_getLsbD_eq fun i hi => ((h3 i (Nat.zero_le i) hi).2).trans (h i hi).2.symm
  have e2 : M' = M := BitVec.eq_of_getLsbD_eq fun i hi => ((h3 i (Nat.zero_le i) hi).1).trans (h i hi).1.symm
  rw [← e1, ← e2]
  exact h1
theorem getD_set (l : List Bool) (i j : Nat) (b : Bool) (hi : i < l.length) : (l.set i b).getD j false = if j = i then b else l.getD j false := by
  by_cases h : j = i
  · subst h
    rw [if_pos rfl, List.getD_eq_getElem?_getD, List.getElem?_set_self hi]; rfl
  · rw [if_neg h, List.getD_eq_getElem?_getD, List.getElem?_set_ne (Ne.symm h), ← List.getD_eq_getElem?_getD]
theorem rep_false (n j : Nat) : (List.replicate n false).getD j false = false := by
  rw [List.getD_eq_getElem?_getD, List.getElem?_replicate]
  split <;> rfl
/-! ### One digit -/
/-- What the digits of one place turn: the carries, and what the place may be. -/
def dg (kind : Int) (va ma vb mb c0 c1 : Bool) : Bool × Bool × Bool × Bool := two_run kind (ma || !va) (ma || va) (mb || !vb) (mb || vb) c0 c1 8 (false, false, false, false)
def good (r : Bool × Bool × Bool × Bool) (c0 c1 M V : Bool) : Bool := r.1 == c0 && (r.2.1 == c1 && ((r.2.2.1 && r.2.2.2) == M && ((r.2.2.2 && !r.2.2.1) == V)))
theorem tab0 : ∀ va ma vb mb cl ch : Bool, (cl = true → ch = true) → good (dg 0 va ma vb mb (!cl) ch) (!Bool.atLeastTwo (va && !ma) (vb && !mb) cl) (Bool.atLeastTwo (va || ma) (vb || mb) ch)
    (ma || mb || (cl ^^ ch)) (((va && !ma) ^^ ((vb && !mb) ^^ cl)) && !(ma || mb || (cl ^^ ch))) = true := by decide +kernel
theorem tab1 : ∀ va ma vb mb kl km kh : Bool, (kl = true → km = true) → (km = true → kh = true) → good (dg 1 va ma vb mb kh (!kl)) (Bool.atLeastTwo (va || ma) (!(vb && !mb)) kh) (!Bool.atLeastTwo (va && !ma) (!(vb || mb)) kl)
    (ma || mb || (kh ^^ kl)) (((va && !ma) ^^ ((!(vb && !mb)) ^^ km)) && !(ma || mb || (kh ^^ kl))) = true := by decide +kernel
theorem tab2 : ∀ va ma vb mb : Bool, good (dg 2 va ma vb mb true false) true false ((((va && !ma) || ma) && ((vb && !mb) || mb)) && !((va && !ma) && (vb && !mb))) ((va && !ma) && (vb && !mb)) = true := by decide +kernel
theorem tab3 : ∀ va ma vb mb : Bool, good (dg 3 va ma vb mb true false) true false ((ma || mb) && !((va && !ma) || (vb && !mb))) ((va && !ma) || (vb && !mb)) = true := by decide +kernel
theorem tab4 : ∀ va ma vb mb : Bool, good (dg 4 va ma vb mb true false) true false (ma || mb) (((va && !ma) ^^ (vb && !mb)) && !(ma || mb)) = true := by decide +kernel
/-! ### All digits -/
theorem set_at (b : Bool) (l : List Bool) (i j : Nat) (hi : i < l.length) (hf : l.getD i false = false) : (two_set b l (i : Int)).getD j false = if j = i then b else l.getD j false := by
  unfold two_set
  cases b
  · rw [if_neg Bool.false_ne_true]
    by_cases h : j = i
    · subst h; rw [if_pos rfl, hf]
    · rw [if_neg h]
  · rw [if_pos rfl, Int.toNat_natCast, getD_set _ _ _ _ hi]
abbrev at_ (kind : Int) (va ma vb mb : W) (c : Nat → Bool × Bool) (i : Nat) := dg kind (va.getLsbD i) (ma.getLsbD i) (vb.getLsbD i) (mb.getLsbD i) (c i).1 (c i).2
theorem two_loop (kind : Int) (va ma vb mb : W) (c : Nat → Bool × Bool) (hc : ∀ i, i < 64 → (at_ kind va ma vb mb c i).1 = (c (i + 1)).1 ∧ (at_ kind va ma vb mb c i).2.1 = (c (i + 1)).2) (k : Nat) (hk : 64 < k) :
    ∀ (d i : Nat) (zl ol : List Bool), i + d = 64 → zl.length = 64 → ol.length = 64 →
    (∀ j, j < i → zl.getD j false = (at_ kind va ma vb mb c j).2.2.1 ∧ ol.getD j false = (at_ kind va ma vb mb c j).2.2.2) → (∀ j, i ≤ j → zl.getD j false = false ∧ ol.getD j false = false) →
    ∃ zr wr, two_go k kind (U va) (U ma) (U vb) (U mb) d i (c i).1 (c i).2 zl ol = some (zr, wr) ∧ zr.length = 64 ∧ wr.length = 64 ∧ ∀ j, j < 64 → zr.getD j false = (at_ kind va ma vb mb c j).2.2.1 ∧ wr.getD j false = (at_ kind va ma vb mb c j).2.2.2 := by
  intro d
  induction d with
  | zero =>
    intro i zl ol hi hz ho hl hf
    exact ⟨zl, ol, rfl, hz, ho, fun j hj => hl j (by omega)⟩
  | succ d ih =>
    intro i zl ol hi hz ho hl hf
    obtain ⟨h1, h2⟩ := hc i (by omega)
    have e := ih (i + 1) (two_set (at_ kind va ma vb mb c i).2.2.1 zl (i : Int)) (two_set (at_ kind va ma vb mb c i).2.2.2 ol (i : Int)) (by omega) ((two_len _ _ _).trans hz) ((two_len _ _ _).trans ho) (fun j hj => by
      rw [set_at _ _ _ _ (by omega) (hf i (Nat.le_refl i)).1, set_at _ _ _ _ (by omega) (hf i (Nat.le_refl i)).2]
      by_cases hij : j = i
      · subst hij; rw [if_pos rfl, if_pos rfl]; exact ⟨rfl, rfl⟩
      · rw [if_neg hij, if_neg hij]; exact hl j (by omega)) (fun j hj => by
      rw [set_at _ _ _ _ (by omega) (hf i (Nat.le_refl i)).1, set_at _ _ _ _ (by omega) (hf i (Nat.le_refl i)).2, if_neg (by omega), if_neg (by omega)]
      exact hf j (by omega))
    obtain ⟨zr, wr, e1, e2⟩ := e
    refine ⟨zr, wr, ?_, e2⟩
    unfold two_go
    rw [bit_val va ma i k (by omega) (by omega), Option.bind_some, bit_val vb mb i k (by omega) (by omega), Option.bind_some, ← e1, ← h1, ← h2]
    rfl
theorem two_ref (kind : Int) (va ma vb mb : W) (c : Nat → Bool × Bool) (c0 : c 0 = (true, false)) (V M : W)
    (h : ∀ i, i < 64 → good (at_ kind va ma vb mb c i) (c (i + 1)).1 (c (i + 1)).2 (M.getLsbD i) (V.getLsbD i) = true) (k : Nat) (hk : 300 < k) :
    halberdref06_Two.f k kind (U va) (U ma) (U vb) (U mb) = some (U V, U M) := by
  have hh : ∀ i, i < 64 → (at_ kind va ma vb mb c i).1 = (c (i + 1)).1 ∧ (at_ kind va ma vb mb c i).2.1 = (c (i + 1)).2 ∧ ((at_ kind va ma vb mb c i).2.2.1 && (at_ kind va ma vb mb c i).2.2.2) = M.getLsbD i ∧ ((at_ kind va ma vb mb c i).2.2.2 && !(at_ kind va ma vb mb c i).2.2.1) = V.getLsbD i := by
    intro i hi
    have := h i hi
    unfold good at this
    simp only [Bool.and_eq_true, beq_iff_eq] at this
    exact ⟨this.1, this.2.1, this.2.2.1, this.2.2.2⟩
  obtain ⟨zr, wr, e1, e2, e3, e4⟩ := two_loop kind va ma vb mb c (fun i hi => ⟨(hh i hi).1, (hh i hi).2.1⟩) k (by omega) 64 0 (List.replicate 64 false) (List.replicate 64 false) (by omega) (by simp) (by simp) (fun j hj => by omega) (fun j _ => ⟨rep_false 64 j, rep_false 64 j⟩)
  rw [c0] at e1
  unfold halberdref06_Two.f
  have e1' : two_go k kind (U va) (U ma) (U vb) (U mb) 64 0 true false (List.replicate 64 false) (List.replicate 64 false) = some (zr, wr) := e1
  rw [e1', Option.bind_some]
  refine of_val zr wr e2 e3 k (by omega) V M (fun j hj => ?_)
  rw [(e4 j hj).1, (e4 j hj).2]
  exact ⟨(hh j hj).2.2.1.symm, (hh j hj).2.2.2.symm⟩
/-! ### The five kinds -/
def cAdd (va ma vb mb : W) (i : Nat) : Bool × Bool := (!BitVec.carry i (lo va ma) (lo vb mb) false, BitVec.carry i (hi va ma) (hi vb mb) false)
def cSub (va ma vb mb : W) (i : Nat) : Bool × Bool := (BitVec.carry i (hi va ma) (~~~lo vb mb) true, !BitVec.carry i (lo va ma) (~~~hi vb mb) true)
theorem lo_hi (v m : W) : In (lo v m) (hi v m) := in_hi (has_lo v m)
theorem two_add (va ma vb mb : W) (k : Nat) (hk : 300 < k) : halberdref06_Two.f k 0 (U va) (U ma) (U vb) (U mb) = some (U (lo (lo va ma + lo vb mb) (addMask va ma vb mb)), U (addMask va ma vb mb)) := by
  refine two_ref 0 va ma vb mb (cAdd va ma vb mb) (by simp [cAdd, BitVec.carry_zero]) _ _ (fun i h => ?_) k hk
  have t := tab0 (va.getLsbD i) (ma.getLsbD i) (vb.getLsbD i) (mb.getLsbD i) (BitVec.carry i (lo va ma) (lo vb mb) false) (BitVec.carry i (hi va ma) (hi vb mb) false) (carry_mono (lo_hi va ma) (lo_hi vb mb) i false)
  simp only [at_, cAdd]
  rw [BitVec.carry_succ, BitVec.carry_succ, lo_bit (lo va ma + lo vb mb) _ h, addMask_bit _ _ _ _ h, BitVec.getLsbD_add h, lo_bit va ma h, lo_bit vb mb h, hi_bit va ma h, hi_bit vb mb h]
  exact t
theorem two_sub (va ma vb mb : W) (k : Nat) (hk : 300 < k) : halberdref06_Two.f k 1 (U va) (U ma) (U vb) (U mb) = some (U (lo (lo va ma - lo vb mb) (subMask va ma vb mb)), U (subMask va ma vb mb)) := by
  refine two_ref 1 va ma vb mb (cSub va ma vb mb) (by simp [cSub, BitVec.carry_zero]) _ _ (fun i h => ?_) k hk
  have t := tab1 (va.getLsbD i) (ma.getLsbD i) (vb.getLsbD i) (mb.getLsbD i) (BitVec.carry i (lo va ma) (~~~hi vb mb) true) (BitVec.carry i (lo va ma) (~~~lo vb mb) true) (BitVec.carry i (hi va ma) (~~~lo vb mb) true)
    (carry_mono (fun _ h => h) (lo_hi vb mb).not i true) (carry_mono (lo_hi va ma) (fun _ h => h) i true)
  simp only [at_, cSub]
  rw [BitVec.carry_succ, BitVec.carry_succ, lo_bit (lo va ma - lo vb mb) _ h, subMask_bit _ _ _ _ h, sub_bit _ _ h, BitVec.getLsbD_not, BitVec.getLsbD_not, lo_bit va ma h, lo_bit vb mb h, hi_bit va ma h, hi_bit vb mb h]
  simp only [h, decide_true, Bool.true_and]
  exact t
theorem two_and (va ma vb mb : W) (k : Nat) (hk : 300 < k) : halberdref06_Two.f k 2 (U va) (U ma) (U vb) (U mb) = some (U (lo va ma &&& lo vb mb), U (((lo va ma ||| ma) &&& (lo vb mb ||| mb)) &&& ~~~(lo va ma &&& lo vb mb))) := by
  refine two_ref 2 va ma vb mb (fun _ => (true, false)) rfl _ _ (fun i h => ?_) k hk
  have t := tab2 (va.getLsbD i) (ma.getLsbD i) (vb.getLsbD i) (mb.getLsbD i)
  simp only [BitVec.getLsbD_and, BitVec.getLsbD_or, BitVec.getLsbD_not, lo_bit _ _ h, h, decide_true, Bool.true_and]
  exact t
theorem two_or (va ma vb mb : W) (k : Nat) (hk : 300 < k) : halberdref06_Two.f k 3 (U va) (U ma) (U vb) (U mb) = some (U (lo va ma ||| lo vb mb), U ((ma ||| mb) &&& ~~~(lo va ma ||| lo vb mb))) := by
  refine two_ref 3 va ma vb mb (fun _ => (true, false)) rfl _ _ (fun i h => ?_) k hk
  have t := tab3 (va.getLsbD i) (ma.getLsbD i) (vb.getLsbD i) (mb.getLsbD i)
  simp only [BitVec.getLsbD_and, BitVec.getLsbD_or, BitVec.getLsbD_not, lo_bit _ _ h, h, decide_true, Bool.true_and]
  exact t
theorem two_xor (va ma vb mb : W) (k : Nat) (hk : 300 < k) : halberdref06_Two.f k 4 (U va) (U ma) (U vb) (U mb) = some (U (lo (lo va ma ^^^ lo vb mb) (ma ||| mb)), U (ma ||| mb)) := by
  refine two_ref 4 va ma vb mb (fun _ => (true, false)) rfl _ _ (fun i h => ?_) k hk
  have t := tab4 (va.getLsbD i) (ma.getLsbD i) (vb.getLsbD i) (mb.getLsbD i)
  rw [lo_bit (lo va ma ^^^ lo vb mb) _ h]
  simp only [BitVec.getLsbD_xor, BitVec.getLsbD_or, lo_bit _ _ h]
  exact t
theorem TnumTwo : halberdlaw06_TnumTwo.Pure := by
  intro va ma vb mb h1 h2
  obtain ⟨va, rfl⟩ := U_wf h1.1
  obtain ⟨ma, rfl⟩ := U_wf h1.2
  obtain ⟨vb, rfl⟩ := U_wf h2.1
  obtain ⟨mb, rfl⟩ := U_wf h2.2
  refine ⟨400, ?_⟩
  unfold halberdlaw06_TnumTwo.f
  refine ask_ t_alive ?_
  refine have_ (t_add va ma vb mb) ?_
  refine have_ (two_add va ma vb mb 400 (by omega)) ?_
  refine yes_ (by simp) ?_
  refine have_ (t_sub va ma vb mb) ?_
  refine have_ (two_sub va ma vb mb 400 (by omega)) ?_
  refine yes_ (by simp) ?_
  refine have_ (t_and va ma vb mb) ?_
  refine have_ (two_and va ma vb mb 400 (by omega)) ?_
  refine yes_ (by simp) ?_
  refine have_ (t_or va ma vb mb) ?_
  refine have_ (two_or va ma vb mb 400 (by omega)) ?_
  refine yes_ (by simp) ?_
  refine have_ (t_xor va ma vb mb) ?_
  refine have_ (two_xor va ma vb mb 400 (by omega)) ?_
  simp

end Go.Proofs.Yteckjmejngieeaa.Pure
