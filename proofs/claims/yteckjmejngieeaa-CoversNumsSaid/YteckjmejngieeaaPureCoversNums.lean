/- Whether anything known of a number covers another is the document's; then a number that the other has it has: for all that is known of numbers. -/
import Derived.Test.YteckjmejngieeaaPCoversNumsx3
import Derived.Test.YteckjmejngieeaaTB
import Derived.Lib.ItoaNum
set_option linter.unusedVariables false
set_option linter.unusedSimpArgs false
namespace Go.Proofs.Yteckjmejngieeaa.Pure
open Go.RowKit Go.Proofs.Yteckjmejngieeaa.PCoversNums Go.Proofs.YteckjmejngieeaaW.PrintWords Go.Proofs.YteckjmejngieeaaW.PrintLast Go.Proofs.YteckjmejngieeaaW.PrintMore Go.Proofs.Yteckjmejngieeaa.HB Go.Proofs.Yteckjmejngieeaa.TB

/-! ### The document's way: bit by bit -/
/-- Bit number i of a whole number. -/
def ib (x : W) (i : Nat) : Bool := x.getLsbD i
theorem U_half (x : W) : IntKind.u64.wrap (Int.tdiv (U x) 2) = U (x >>> 1) := by
  rw [Int.tdiv_eq_ediv_of_nonneg (U_lo x), wrap_u64_id (by have := U_lo x; omega) (by have := U_hi x; omega)]
  have := U_shr x 1 (by decide) (by decide)
  unfold shr at this
  exact this
theorem U_odd (x : W) : Int.tmod (U x) 2 = if x.getLsbD 0 = true then 1 else 0 := by
  rw [Int.tmod_eq_emod_of_nonneg (U_lo x)]
  unfold U
  have e : x.getLsbD 0 = decide (x.toNat % 2 = 1) := by
    rw [← BitVec.testBit_toNat, Nat.testBit_zero]
  rw [e]
  by_cases h : x.toNat % 2 = 1
  · rw [if_pos (by simpa using h)]; omega
  · rw [if_neg (by simpa using h)]; omega
theorem bit_loop (v m : W) (i : Nat) (hi : i ≤ 64) : ∀ (d k j : Nat), j + d = i → d < k →
    halberdref06_Bit.l0 k i (U (m >>> j)) (U (v >>> j)) j = some (m.getLsbD i || !v.getLsbD i, m.getLsbD i || v.getLsbD i) := by
  intro d
  induction d with
  | zero =>
    intro k j hj hk
    obtain ⟨k, rfl⟩ : ∃ n, k = n + 1 := ⟨k - 1, by omega⟩
    obtain rfl : j = i := by omega
    simp only [halberdref06_Bit.l0]
    rw [if_neg (by omega), U_odd, U_odd, BitVec.getLsbD_ushiftRight, BitVec.getLsbD_ushiftRight, Nat.add_zero]
    cases hm : m.getLsbD j <;> cases hv : v.getLsbD j <;> simp
  | succ d ih =>
    intro k j hj hk
    obtain ⟨k, rfl⟩ : ∃ n, k = n + 1 := ⟨k - 1, by omega⟩
    simp only [halberdref06_Bit.l0]
    have e3 : wrap64 ((j : Int) + 1) = ((j + 1 : Nat) : Int) := by unfold wrap64; omega
    rw [if_pos (by omega), U_half, U_half, e3, ← BitVec.shiftRight_add, ← BitVec.shiftRight_add]
    exact ih k (j + 1) (by omega) (by omega)
theorem bit_val (v m : W) (i k : Nat) (hi : i ≤ 64) (hk : i < k) : halberdref06_Bit.f k (U v) (U m) i = some (m.getLsbD i || !v.getLsbD i, m.getLsbD i || v.getLsbD i) := by
  unfold halberdref06_Bit.f
  have := bit_loop v m i hi i k 0 (by omega) hk
  simpa using this
theorem rhas_loop (v m x : W) : ∀ (d k j : Nat), j + d = 64 → d + 65 < k →
    ∃ r, halberdref06_Has.l0 k (U (x >>> j)) j (U v) (U m) = some r ∧ (r = true ↔ ∀ i, i < 64 → j ≤ i → (x.getLsbD i && !m.getLsbD i) = (v.getLsbD i && !m.getLsbD i)) := by
  intro d
  induction d with
  | zero =>
    intro k j hj hk
    obtain ⟨k, rfl⟩ : ∃ n, k = n + 1 := ⟨k - 1, by omega⟩
    refine ⟨true, ?_, by simp; intro i h1 h2; omega⟩
    simp only [halberdref06_Has.l0]
    rw [if_neg (by omega)]
  | succ d ih =>
    intro k j hj hk
    obtain ⟨k, rfl⟩ : ∃ n, k = n + 1 := ⟨k - 1, by omega⟩
    obtain ⟨r, hr, hiff⟩ := ih k (j + 1) (by omega) (by omega)
    simp only [halberdref06_Has.l0]
    have e3 : wrap64 ((j : Int) + 1) = ((j + 1 : Nat) : Int) := by unfold wrap64; omega
    rw [if_pos (by omega), bit_val v m j k (by omega) (by omega), U_half, e3, ← BitVec.shiftRight_add, hr, U_odd, BitVec.getLsbD_ushiftRight, Nat.add_zero]
    simp only [Option.bind_some]
    by_cases hb : (x.getLsbD j && !m.getLsbD j) = (v.getLsbD j && !m.getLsbD j)
    · refine ⟨r, ?_, ?_⟩
      · clear hiff hr ih
        revert hb
        cases x.getLsbD j <;> cases m.getLsbD j <;> cases v.getLsbD j <;> simp
      · rw [hiff]
        constructor
        · intro h i h1 h2
          by_cases hij : i = j
          · subst hij; exact hb
          · exact h i h1 (by omega)
        · intro h i h1 h2
          exact h i h1 (by omega)
    · refine ⟨false, ?_, ?_⟩
      · clear hiff hr ih
        revert hb
        cases x.getLsbD j <;> cases m.getLsbD j <;> cases v.getLsbD j <;> simp
      · constructor
        · intro h; exact absurd h (by simp)
        · intro h; exact absurd (h j (by omega) (Nat.le_refl j)) hb
theorem rhas_val (v m x : W) (k : Nat) (hk : 129 < k) : halberdref06_Has.f k (U v) (U m) (U x) = some (decide (Has v m x)) := by
  unfold halberdref06_Has.f
  obtain ⟨r, hr, hiff⟩ := rhas_loop v m x 64 k 0 (by omega) (by omega)
  have e0 : x >>> 0 = x := by simp
  rw [e0, show ((0 : Nat) : Int) = 0 from rfl] at hr
  rw [hr]
  congr 1
  rw [Bool.eq_iff_iff, hiff, decide_eq_true_eq]
  constructor
  · intro h; exact has_of fun i hi => h i hi (Nat.zero_le i)
  · intro h i hi _; exact has_bit h hi
/-- Bit by bit: one pattern covers another. -/
def Cov (va ma vb mb : W) (j : Nat) : Prop := ∀ i, i < 64 → j ≤ i → ma.getLsbD i = true ∨ (mb.getLsbD i = false ∧ va.getLsbD i = vb.getLsbD i)
noncomputable instance (va ma vb mb : W) (j : Nat) : Decidable (Cov va ma vb mb j) := Classical.propDecidable _
theorem cov_prog (va ma vb mb : W) : (mb &&& ~~~ma = 0#64 ∧ (va ^^^ vb) &&& ~~~ma = 0#64) ↔ Cov va ma vb mb 0 := by
  constructor
  · rintro ⟨h1, h2⟩ i hi _
    have e1 := congrArg (fun b => BitVec.getLsbD b i) h1
    have e2 := congrArg (fun b => BitVec.getLsbD b i) h2
    simp only [BitVec.getLsbD_and, BitVec.getLsbD_xor, BitVec.getLsbD_not, hi, decide_true, Bool.true_and, BitVec.getLsbD_zero] at e1 e2
    revert e1 e2
    cases ma.getLsbD i <;> cases mb.getLsbD i <;> cases va.getLsbD i <;> cases vb.getLsbD i <;> simp
  · intro h
    constructor
    all_goals
      apply BitVec.eq_of_getLsbD_eq
      intro i hi
      have := h i hi (Nat.zero_le i)
      simp only [BitVec.getLsbD_and, BitVec.getLsbD_xor, BitVec.getLsbD_not, hi, decide_true, Bool.true_and, BitVec.getLsbD_zero]
      revert this
      cases ma.getLsbD i <;> cases mb.getLsbD i <;> cases va.getLsbD i <;> cases vb.getLsbD i <;> simp
/-- The bounds of one lie round those of another. -/
def Out (a2 a3 a4 a5 b2 b3 b4 b5 : Int) : Prop := a2 ≤ b2 ∧ b3 ≤ a3 ∧ a4 ≤ b4 ∧ b5 ≤ a5
instance (a2 a3 a4 a5 b2 b3 b4 b5 : Int) : Decidable (Out a2 a3 a4 a5 b2 b3 b4 b5) := inferInstanceAs (Decidable (_ ∧ _))
theorem out_ref (a2 a3 a4 a5 b2 b3 b4 b5 : Int) : (if a2 ≤ b2 then (if b3 ≤ a3 then (if a4 ≤ b4 then (some (decide (b5 ≤ a5))) else (some false)) else (some false)) else (some false)) = some (decide (Out a2 a3 a4 a5 b2 b3 b4 b5)) := by
  unfold Out
  by_cases h1 : a2 ≤ b2 <;> by_cases h2 : b3 ≤ a3 <;> by_cases h3 : a4 ≤ b4 <;> simp [h1, h2, h3]
theorem covers_val (va ma vb mb : W) (a2 a3 a4 a5 b2 b3 b4 b5 : Int) : covers_Num.f (U va) (U ma) a2 a3 a4 a5 (U vb) (U mb) b2 b3 b4 b5 = some (decide (Cov va ma vb mb 0 ∧ Out a2 a3 a4 a5 b2 b3 b4 b5)) := by
  unfold covers_Num.f
  rw [U_andNot, U_xor, U_andNot, U_zero]
  have hp := cov_prog va ma vb mb
  by_cases h1 : mb &&& ~~~ma = 0#64
  · rw [if_pos (congrArg U h1)]
    by_cases h2 : (va ^^^ vb) &&& ~~~ma = 0#64
    · rw [if_pos (congrArg U h2)]
      have hc : Cov va ma vb mb 0 := hp.1 ⟨h1, h2⟩
      have := out_ref a2 a3 a4 a5 b2 b3 b4 b5
      simp only [ge_iff_le]
      rw [this]
      congr 1
      simp [hc]
    · rw [if_neg (fun e => h2 (U_inj.1 e))]
      have hc : ¬ Cov va ma vb mb 0 := fun c => h2 (hp.2 c).2
      simp [hc]
  · rw [if_neg (fun e => h1 (U_inj.1 e))]
    have hc : ¬ Cov va ma vb mb 0 := fun c => h1 (hp.2 c).1
    simp [hc]
theorem ref30_loop (va ma vb mb : W) (z0 z1 y0 y1 a2 a3 a4 a5 b2 b3 b4 b5 : Int) : ∀ (d k j : Nat), j + d = 64 → d < k →
    halberdref30_Num.l0 k j z0 z1 a2 a3 a4 a5 y0 y1 b2 b3 b4 b5 (U (va >>> j)) (U (ma >>> j)) (U (vb >>> j)) (U (mb >>> j)) = some (decide (Cov va ma vb mb j ∧ Out a2 a3 a4 a5 b2 b3 b4 b5)) := by
  intro d
  induction d with
  | zero =>
    intro k j hj hk
    obtain ⟨k, rfl⟩ : ∃ n, k = n + 1 := ⟨k - 1, by omega⟩
    rw [halberdref30_Num.l0, if_neg (by omega), out_ref]
    have hc : Cov va ma vb mb j := fun i h1 h2 => by omega
    congr 1
    simp [hc]
  | succ d ih =>
    intro k j hj hk
    obtain ⟨k, rfl⟩ : ∃ n, k = n + 1 := ⟨k - 1, by omega⟩
    have e3 : wrap64 ((j : Int) + 1) = ((j + 1 : Nat) : Int) := by unfold wrap64; omega
    have step := ih k (j + 1) (by omega) (by omega)
    rw [halberdref30_Num.l0, if_pos (by omega), U_half, U_half, U_half, U_half, e3, ← BitVec.shiftRight_add, ← BitVec.shiftRight_add, ← BitVec.shiftRight_add, ← BitVec.shiftRight_add, step, U_odd, U_odd, U_odd, U_odd]
    simp only [BitVec.getLsbD_ushiftRight, Nat.add_zero]
    have hcut : Cov va ma vb mb j ↔ (ma.getLsbD j = true ∨ (mb.getLsbD j = false ∧ va.getLsbD j = vb.getLsbD j)) ∧ Cov va ma vb mb (j + 1) := by
      constructor
      · intro h
        exact ⟨h j (by omega) (Nat.le_refl j), fun i h1 h2 => h i h1 (by omega)⟩
      · rintro ⟨h1, h2⟩ i hi hji
        by_cases e : i = j
        · subst e; exact h1
        · exact h2 i hi (by omega)
    have hd : decide (Cov va ma vb mb j ∧ Out a2 a3 a4 a5 b2 b3 b4 b5) = (decide (ma.getLsbD j = true ∨ (mb.getLsbD j = false ∧ va.getLsbD j = vb.getLsbD j)) && decide (Cov va ma vb mb (j + 1) ∧ Out a2 a3 a4 a5 b2 b3 b4 b5)) := by
      rw [← Bool.decide_and]
      exact decide_eq_decide.2 ⟨fun h => ⟨(hcut.1 h.1).1, (hcut.1 h.1).2, h.2⟩, fun h => ⟨hcut.2 ⟨h.1, h.2.1⟩, h.2.2⟩⟩
    rw [hd]
    generalize decide (Cov va ma vb mb (j + 1) ∧ Out a2 a3 a4 a5 b2 b3 b4 b5) = D
    clear step ih hcut hd
    cases ma.getLsbD j <;> cases mb.getLsbD j <;> cases va.getLsbD j <;> cases vb.getLsbD j <;> simp
theorem ref30_val (va ma vb mb : W) (a2 a3 a4 a5 b2 b3 b4 b5 : Int) (k : Nat) (hk : 64 < k) : halberdref30_Num.f k (U va) (U ma) a2 a3 a4 a5 (U vb) (U mb) b2 b3 b4 b5 = some (decide (Cov va ma vb mb 0 ∧ Out a2 a3 a4 a5 b2 b3 b4 b5)) := by
  unfold halberdref30_Num.f
  have := ref30_loop va ma vb mb (U va) (U ma) (U vb) (U mb) a2 a3 a4 a5 b2 b3 b4 b5 64 k 0 (by omega) (by omega)
  simpa using this
theorem rhas07 (v m x : W) (a2 a3 a4 a5 : Int) (k : Nat) (hk : 129 < k) : halberdref07_Has.f k (U v) (U m) a2 a3 a4 a5 (U x) = some (decide (Has v m x ∧ a2 ≤ U x ∧ U x ≤ a3 ∧ a4 ≤ wrap64 (U x) ∧ wrap64 (U x) ≤ a5)) := by
  unfold halberdref07_Has.f
  refine have_ (rhas_val v m x k hk) ?_
  by_cases h0 : Has v m x <;> by_cases h1 : a2 ≤ U x <;> by_cases h2 : U x ≤ a3 <;> by_cases h3 : a4 ≤ wrap64 (U x) <;> simp [h0, h1, h2, h3]
theorem cov_has {va ma vb mb x : W} (h : Cov va ma vb mb 0) (hx : Has vb mb x) : Has va ma x := has_of fun i hi => by
  have h1 := has_bit hx hi
  have h2 := h i hi (Nat.zero_le i)
  revert h1 h2
  cases x.getLsbD i <;> cases ma.getLsbD i <;> cases mb.getLsbD i <;> cases va.getLsbD i <;> cases vb.getLsbD i <;> simp
theorem cov_alive : halberdlaw30_alive.f = some true := by kernel_rfl
theorem CoversNums : halberdlaw30_CoversNums.Pure := by
  intro a0 a1 a2 a3 a4 a5 b0 b1 b2 b3 b4 b5 x h1 h2 h3
  obtain ⟨va, rfl⟩ := U_wf h1.1.1
  obtain ⟨ma, rfl⟩ := U_wf h1.1.2
  obtain ⟨vb, rfl⟩ := U_wf h2.1.1
  obtain ⟨mb, rfl⟩ := U_wf h2.1.2
  obtain ⟨x, rfl⟩ := U_wf h3
  refine ⟨200, ?_⟩
  unfold halberdlaw30_CoversNums.f
  refine ask_ cov_alive ?_
  refine have_ (covers_val va ma vb mb a2 a3 a4 a5 b2 b3 b4 b5) ?_
  refine have_ (ref30_val va ma vb mb a2 a3 a4 a5 b2 b3 b4 b5 200 (by omega)) ?_
  refine no_ (by simp) ?_
  refine have_ (covers_val va ma va ma a2 a3 a4 a5 a2 a3 a4 a5) ?_
  have hself : Cov va ma va ma 0 ∧ Out a2 a3 a4 a5 a2 a3 a4 a5 := by
    refine ⟨fun i hi _ => ?_, Int.le_refl _, Int.le_refl _, Int.le_refl _, Int.le_refl _⟩
    cases ma.getLsbD i
    · exact Or.inr ⟨rfl, rfl⟩
    · exact Or.inl rfl
  rw [decide_eq_true hself, halberdlaw30_CoversNums.j0]
  refine no_ (by simp) ?_
  by_cases hc : Cov va ma vb mb 0 ∧ Out a2 a3 a4 a5 b2 b3 b4 b5
  · rw [if_pos (decide_eq_true hc)]
    refine have_ (rhas07 vb mb x b2 b3 b4 b5 199 (by omega)) ?_
    by_cases hx : Has vb mb x ∧ b2 ≤ U x ∧ U x ≤ b3 ∧ b4 ≤ wrap64 (U x) ∧ wrap64 (U x) ≤ b5
    · rw [if_pos (decide_eq_true hx)]
      refine have_ (rhas07 va ma x a2 a3 a4 a5 199 (by omega)) ?_
      obtain ⟨o1, o2, o3, o4⟩ := hc.2
      obtain ⟨x0, x1, x2, x3, x4⟩ := hx
      rw [decide_eq_true ⟨cov_has hc.1 x0, by omega, by omega, by omega, by omega⟩]
    · rw [if_neg (by rw [decide_eq_false hx]; decide)]
  · rw [if_neg (by rw [decide_eq_false hc]; decide)]

end Go.Proofs.Yteckjmejngieeaa.Pure
