/- What is known of the result of one number and one other is that number: for every opcode, narrow or wide, and all numbers. -/
import Derived.Test.YtkgmdcibjjkhlaaPXferNearx12
import Derived.Test.YtkgmdcibjjkhlaaVTB
import Derived.Lib.ItoaNum
set_option linter.unusedVariables false
set_option linter.unusedSimpArgs false
namespace Go.Proofs.Ytkgmdcibjjkhlaa.Pure
open Go.RowKit Go.Proofs.Ytkgmdcibjjkhlaa.PXferNear Go.Proofs.YtkgmdcibjjkhlaaW.PrintWords Go.Proofs.YtkgmdcibjjkhlaaW.PrintLast Go.Proofs.YtkgmdcibjjkhlaaW.PrintMore Go.Proofs.Ytkgmdcibjjkhlaa.HB Go.Proofs.Ytkgmdcibjjkhlaa.TB

/-! ### Low bytes and signs -/
def lowOf (wide : Bool) (x : Int) : Int := if wide = true then x else x % 4294967296
def sgnOf (wide : Bool) (y : Int) : Int := if wide = true then wrap64 y else if y % 4294967296 ≥ 2147483648 then y % 4294967296 - 4294967296 else y % 4294967296
theorem lowOf_rg (wide : Bool) {x : Int} (h : 0 ≤ x ∧ x < 18446744073709551616) : 0 ≤ lowOf wide x ∧ lowOf wide x < 18446744073709551616 := by
  unfold lowOf
  cases wide <;> simp only [if_true, if_false, Bool.false_eq_true] <;> omega
theorem a_zext (wide : Bool) {x : Int} (h : 0 ≤ x ∧ x < 18446744073709551616) : words_Zext.f x (if wide = true then 8 else 4) = some (lowOf wide x) := by
  cases wide with
  | false =>
    have e : words_Zext.f x 4 = some (bits .and .u64 x 4294967295) := by kernel_rfl
    refine Eq.trans e (congrArg some ?_)
    rw [and_mask x 32 4294967295 (by decide) (by decide) h.1 h.2]
    rfl
  | true =>
    have e : words_Zext.f x 8 = some (bits .and .u64 x 18446744073709551615) := by kernel_rfl
    refine Eq.trans e (congrArg some ?_)
    rw [and_mask x 64 18446744073709551615 (by decide) (by decide) h.1 h.2]
    show x % 2 ^ 64 = x
    omega
theorem a_sext (wide : Bool) {y : Int} (h : 0 ≤ y ∧ y < 18446744073709551616) : ∃ s, words_Sext.f y (if wide = true then 8 else 4) = some s ∧ wrap64 s = sgnOf wide y := by
  cases wide with
  | false =>
    refine ⟨IntKind.u64.wrap (wrap64 (IntKind.u64.wrap (y * 4294967296)) / 4294967296), by kernel_rfl, ?_⟩
    unfold sgnOf
    rw [if_neg Bool.false_ne_true]
    simp only [IntKind.wrap_u64, wrap64]
    split <;> omega
  | true =>
    refine ⟨IntKind.u64.wrap (wrap64 (IntKind.u64.wrap (y * 1)) / 1), by kernel_rfl, ?_⟩
    unfold sgnOf
    rw [if_pos rfl]
    simp only [IntKind.wrap_u64, wrap64]
    omega
theorem a_cut (wide : Bool) {x : Int} (h : 0 ≤ x) : halberdref04_cut.f x wide = some (lowOf wide x) := by
  unfold halberdref04_cut.f lowOf
  cases wide with
  | false => rw [if_neg Bool.false_ne_true, if_neg Bool.false_ne_true, Int.tmod_eq_emod_of_nonneg h]
  | true => rw [if_pos rfl, if_pos rfl]
theorem a_signed (wide : Bool) {y : Int} (h : 0 ≤ y ∧ y < 18446744073709551616) : halberdref04_Signed.f 200 y wide = some (sgnOf wide y) := by
  unfold halberdref04_Signed.f sgnOf
  cases wide with
  | true => rw [if_pos rfl, if_pos rfl]
  | false =>
    rw [if_neg Bool.false_ne_true, if_neg Bool.false_ne_true]
    have e2 : halberdref01_Sext.f 200 y 4 = if Int.tmod y 4294967296 ≥ 2147483648 then some (IntKind.u64.wrap (Int.tmod y 4294967296 - 4294967296)) else some (Int.tmod y 4294967296) := by kernel_rfl
    rw [e2, Int.tmod_eq_emod_of_nonneg h.1]
    by_cases c : y % 4294967296 ≥ 2147483648
    · rw [if_pos c, if_pos c, Option.bind_some]
      congr 1
      simp only [IntKind.wrap_u64, wrap64]
      omega
    · rw [if_neg c, if_neg c, Option.bind_some]
      congr 1
      simp only [wrap64]
      omega
/-! ### What an operation tells -/
def bitsOf (wide : Bool) : Int := if wide = true then 64 else 32
def shV (op : Int) (wide : Bool) (x y : Int) : Int × Bool := if op = 96 then (shl .u64 x (y % bitsOf wide), true) else if op = 112 then (shr .u64 x (y % bitsOf wide), true) else if op = 192 then (IntKind.u64.wrap (shr .i64 (sgnOf wide x) (y % bitsOf wide)), true) else (0, false)
theorem sh_val (op : Int) (wide : Bool) {x y : Int} (hx : 0 ≤ x ∧ x < 18446744073709551616) (hy : 0 ≤ y) : alu_shift.f op (if wide = true then 64 else 32) x y = some (shV op wide x y) := by
  obtain ⟨s, e1, e2⟩ := a_sext wide hx
  have hb : (if wide = true then (64 : Int) else 32) = bitsOf wide := rfl
  have hp : 0 < bitsOf wide := by unfold bitsOf; split <;> decide
  have hn : ¬ bitsOf wide = 0 := by omega
  have hm : Int.tmod y (bitsOf wide) = y % bitsOf wide := Int.tmod_eq_emod_of_nonneg hy
  have h0 : 0 ≤ y % bitsOf wide := Int.emod_nonneg _ hn
  have hs : wrap64 (Int.tdiv (wrap64 (bitsOf wide)) 8) = (if wide = true then 8 else 4) := by cases wide <;> kernel_rfl
  unfold alu_shift.f shV
  rw [hb, if_neg hn, hm, hs, e1, Option.bind_some, e2, if_pos h0, if_pos h0, if_pos h0]
  by_cases h1 : op = 96
  · rw [if_pos h1, if_pos h1]
  rw [if_neg h1, if_neg h1]
  by_cases h2 : op = 112
  · rw [if_pos h2, if_pos h2]
  rw [if_neg h2, if_neg h2]
  by_cases h3 : op = 192
  · rw [if_pos h3, if_pos h3]
  rw [if_neg h3, if_neg h3]
theorem n_rg (wide : Bool) (y : Int) : 0 ≤ y % bitsOf wide ∧ y % bitsOf wide < 64 := by
  unfold bitsOf; cases wide <;> simp only [if_true, if_false, Bool.false_eq_true] <;> omega
theorem sh_rg (op : Int) (wide : Bool) {x y : Int} (hx : 0 ≤ x ∧ x < 18446744073709551616) : 0 ≤ (shV op wide x y).1 ∧ (shV op wide x y).1 < 18446744073709551616 := by
  obtain ⟨X, rfl⟩ := U_of hx.1 hx.2
  have n := n_rg wide y
  unfold shV
  split
  · rw [U_shl X _ n.1 n.2]; exact ⟨U_lo _, U_hi _⟩
  split
  · rw [U_shr X _ n.1 n.2]; exact ⟨U_lo _, U_hi _⟩
  split
  · show 0 ≤ IntKind.u64.wrap _ ∧ IntKind.u64.wrap _ < _
    rw [IntKind.wrap_u64]; omega
  · exact ⟨by decide, by decide⟩
def opV (op a b : Int) : Int × Bool := if op = 0 then (IntKind.u64.wrap (a + b), true) else if op = 16 then (IntKind.u64.wrap (a - b), true) else if op = 32 then (IntKind.u64.wrap (a * b), true) else if op = 48 then (if b = 0 then 0 else IntKind.u64.wrap (Int.tdiv a b), true) else if op = 144 then (if b = 0 then a else Int.tmod a b, true) else if op = 64 then (Go.bits .or .u64 a b, true) else if op = 80 then (Go.bits .and .u64 a b, true) else if op = 160 then (Go.bits .xor .u64 a b, true) else if op = 176 then (b, true) else if op = 128 then (IntKind.u64.wrap (-a), true) else (0, false)
theorem op_val (op a b : Int) : alu_op.f op a b = some (opV op a b) := by
  unfold alu_op.f opV
  by_cases h0 : op = 0
  · rw [if_pos h0, if_pos h0]
  rw [if_neg h0, if_neg h0]
  by_cases h1 : op = 16
  · rw [if_pos h1, if_pos h1]
  rw [if_neg h1, if_neg h1]
  by_cases h2 : op = 32
  · rw [if_pos h2, if_pos h2]
  rw [if_neg h2, if_neg h2]
  by_cases h3 : op = 48
  · rw [if_pos h3, if_pos h3]; unfold alu_div.f; by_cases hb : b = 0
    · rw [if_pos hb, if_pos hb]; rfl
    · rw [if_neg hb, if_neg hb]; rfl
  rw [if_neg h3, if_neg h3]
  by_cases h4 : op = 144
  · rw [if_pos h4, if_pos h4]; unfold alu_mod.f; by_cases hb : b = 0
    · rw [if_pos hb, if_pos hb]; rfl
    · rw [if_neg hb, if_neg hb]; rfl
  rw [if_neg h4, if_neg h4]
  by_cases h5 : op = 64
  · rw [if_pos h5, if_pos h5]
  rw [if_neg h5, if_neg h5]
  by_cases h6 : op = 80
  · rw [if_pos h6, if_pos h6]
  rw [if_neg h6, if_neg h6]
  by_cases h7 : op = 160
  · rw [if_pos h7, if_pos h7]
  rw [if_neg h7, if_neg h7]
  by_cases h8 : op = 176
  · rw [if_pos h8, if_pos h8]
  rw [if_neg h8, if_neg h8]
  by_cases h9 : op = 128
  · rw [if_pos h9, if_pos h9]
  rw [if_neg h9, if_neg h9]
theorem uw_rg (z : Int) : 0 ≤ IntKind.u64.wrap z ∧ IntKind.u64.wrap z < 18446744073709551616 := by rw [IntKind.wrap_u64]; omega
theorem op_rg (op : Int) {a b : Int} (ha : 0 ≤ a ∧ a < 18446744073709551616) (hb : 0 ≤ b ∧ b < 18446744073709551616) : 0 ≤ (opV op a b).1 ∧ (opV op a b).1 < 18446744073709551616 := by
  obtain ⟨A, rfl⟩ := U_of ha.1 ha.2
  obtain ⟨B, rfl⟩ := U_of hb.1 hb.2
  unfold opV
  split
  · exact uw_rg _
  split
  · exact uw_rg _
  split
  · exact uw_rg _
  split
  · dsimp only
    split
    · exact ⟨by decide, by decide⟩
    · exact uw_rg _
  split
  · dsimp only
    split
    · exact ha
    · rename_i h
      rw [Int.tmod_eq_emod_of_nonneg ha.1]
      exact ⟨Int.emod_nonneg _ h, Int.lt_trans (Int.emod_lt_of_pos _ (by omega)) hb.2⟩
  split
  · rw [U_or]; exact ⟨U_lo _, U_hi _⟩
  split
  · rw [U_and]; exact ⟨U_lo _, U_hi _⟩
  split
  · rw [U_xor]; exact ⟨U_lo _, U_hi _⟩
  split
  · exact hb
  split
  · exact uw_rg _
  · exact ⟨by decide, by decide⟩
def doV (op : Int) (wide : Bool) (x y : Int) : Int × Bool := if (shV op wide x y).2 = true then (lowOf wide (shV op wide x y).1, true) else if (opV op x y).2 = true then (lowOf wide (opV op x y).1, true) else (0, false)
theorem do_val (op : Int) (wide : Bool) {a b : Int} (ha : 0 ≤ a ∧ a < 18446744073709551616) (hb : 0 ≤ b ∧ b < 18446744073709551616) : alu_Do.f op wide a b = some (doV op wide (lowOf wide a) (lowOf wide b)) := by
  have hx := lowOf_rg wide ha
  have hy := lowOf_rg wide hb
  unfold alu_Do.f doV
  rw [a_zext wide ha, Option.bind_some, a_zext wide hb, Option.bind_some, sh_val op wide hx hy.1, Option.bind_some]
  by_cases h1 : (shV op wide (lowOf wide a) (lowOf wide b)).2 = true
  · rw [if_pos h1, if_pos h1, a_zext wide (sh_rg op wide hx), Option.bind_some]
  · rw [if_neg h1, if_neg h1, op_val, Option.bind_some]
    by_cases h2 : (opV op (lowOf wide a) (lowOf wide b)).2 = true
    · rw [if_pos h2, if_pos h2, a_zext wide (op_rg op hx hy), Option.bind_some]
    · rw [if_neg h2, if_neg h2]
theorem U_halfW (x : BitVec 64) : IntKind.u64.wrap (Int.tdiv (U x) 2) = U (x >>> 1) := by
  rw [Int.tdiv_eq_ediv_of_nonneg (U_lo x), wrap_u64_id (by have := U_lo x; omega) (by have := U_hi x; omega)]
  have := U_shr x 1 (by decide) (by decide)
  unfold shr at this
  exact this
theorem U_dbl (x : BitVec 64) : IntKind.u64.wrap (2 * U x) = U (x <<< 1) := by
  have := U_shl x 1 (by decide) (by decide)
  unfold shl at this
  rw [Int.mul_comm]
  exact this
theorem step1 {i n : Int} (h0 : 0 ≤ i) (h : i < n) (hn : n < 64) : IntKind.u64.wrap (i + 1) = i + 1 := by rw [IntKind.wrap_u64]; omega
theorem loop0 (wide : Bool) (n : Int) (hn : n < 64) : ∀ (d k : Nat) (i : Int) (X : BitVec 64), 0 ≤ i → i + d = n → d < k → halberdref04_Do.l0 k wide n (U X) i = some (lowOf wide (U (X <<< d)), true) := by
  intro d
  induction d with
  | zero =>
    intro k i X h0 h1 hk
    obtain ⟨k, rfl⟩ : ∃ m, k = m + 1 := ⟨k - 1, by omega⟩
    rw [halberdref04_Do.l0, if_neg (by omega), a_cut wide (U_lo X), Option.bind_some, BitVec.shiftLeft_zero]
  | succ d ih =>
    intro k i X h0 h1 hk
    obtain ⟨k, rfl⟩ : ∃ m, k = m + 1 := ⟨k - 1, by omega⟩
    rw [halberdref04_Do.l0, if_pos (by omega), U_dbl, step1 h0 (n := n) (by omega) hn, ih k (i + 1) _ (by omega) (by omega) (by omega), ← BitVec.shiftLeft_add, Nat.add_comm 1 d]
theorem loop1 (wide : Bool) (n : Int) (hn : n < 64) : ∀ (d k : Nat) (i : Int) (X : BitVec 64), 0 ≤ i → i + d = n → d < k → halberdref04_Do.l1 k wide n (U X) i = some (lowOf wide (U (X >>> d)), true) := by
  intro d
  induction d with
  | zero =>
    intro k i X h0 h1 hk
    obtain ⟨k, rfl⟩ : ∃ m, k = m + 1 := ⟨k - 1, by omega⟩
    rw [halberdref04_Do.l1, if_neg (by omega), a_cut wide (U_lo X), Option.bind_some, BitVec.ushiftRight_zero]
  | succ d ih =>
    intro k i X h0 h1 hk
    obtain ⟨k, rfl⟩ : ∃ m, k = m + 1 := ⟨k - 1, by omega⟩
    rw [halberdref04_Do.l1, if_pos (by omega), U_halfW, step1 h0 (n := n) (by omega) hn, ih k (i + 1) _ (by omega) (by omega) (by omega), ← BitVec.shiftRight_add, Nat.add_comm 1 d]
theorem half_neg {s : Int} (h0 : s < 0) (h1 : -9223372036854775808 ≤ s) : (Int.tmod s 2 = 0 → wrap64 (Int.tdiv s 2) = s / 2) ∧ (¬ Int.tmod s 2 = 0 → wrap64 (wrap64 (Int.tdiv s 2) - 1) = s / 2) := by
  obtain ⟨m, rfl⟩ : ∃ m : Int, s = -m := ⟨-s, by omega⟩
  rw [Int.neg_tmod, Int.neg_tdiv, Int.tmod_eq_emod_of_nonneg (by omega), Int.tdiv_eq_ediv_of_nonneg (by omega)]
  unfold wrap64
  constructor <;> intro h <;> omega
theorem half_pos {s : Int} (h0 : ¬ s < 0) (h1 : s < 9223372036854775808) : wrap64 (Int.tdiv s 2) = s / 2 := by
  rw [Int.tdiv_eq_ediv_of_nonneg (by omega)]
  unfold wrap64
  omega
theorem loop2 (wide : Bool) (n : Int) (hn : n < 64) : ∀ (d k : Nat) (i s : Int), 0 ≤ i → i + d = n → d < k → -9223372036854775808 ≤ s → s < 9223372036854775808 → halberdref04_Do.l2 k wide n s i = some (lowOf wide (IntKind.u64.wrap (s / 2 ^ d)), true) := by
  intro d
  induction d with
  | zero =>
    intro k i s h0 h1 hk h2 h3
    obtain ⟨k, rfl⟩ : ∃ m, k = m + 1 := ⟨k - 1, by omega⟩
    rw [halberdref04_Do.l2, if_neg (by omega), a_cut wide (uw_rg s).1, Option.bind_some, Int.pow_zero, Int.ediv_one]
  | succ d ih =>
    intro k i s h0 h1 hk h2 h3
    obtain ⟨k, rfl⟩ : ∃ m, k = m + 1 := ⟨k - 1, by omega⟩
    have e : s / 2 ^ (d + 1) = s / 2 / 2 ^ d := by
      rw [Int.ediv_ediv_of_nonneg (by decide), Int.pow_succ, Int.mul_comm]
    have next := ih k (i + 1) (s / 2) (by omega) (by omega) (by omega) (by omega) (by omega)
    rw [halberdref04_Do.l2, if_pos (by omega), step1 h0 (n := n) (by omega) hn, e]
    by_cases c : s < 0
    · obtain ⟨q1, q2⟩ := half_neg c h2
      rw [if_pos c]
      by_cases p : Int.tmod s 2 = 0
      · rw [if_pos p, q1 p, next]
      · rw [if_neg p, q2 p, next]
    · rw [if_neg c, half_pos c h3, next]
theorem sgn_rg (wide : Bool) (y : Int) : -9223372036854775808 ≤ sgnOf wide y ∧ sgnOf wide y < 9223372036854775808 := by
  unfold sgnOf
  split
  · unfold wrap64; omega
  · split <;> omega
theorem shr_i64 (s n : Int) (h0 : 0 ≤ n) (h1 : n < 64) : shr .i64 s n = s / 2 ^ n.toNat := by
  unfold shr
  have e : min n.toNat IntKind.i64.bits = n.toNat := by
    have : IntKind.i64.bits = 64 := rfl
    rw [this]; omega
  rw [e]
theorem refj (op : Int) (wide : Bool) {x y : Int} (hx : 0 ≤ x ∧ x < 18446744073709551616) (hy : 0 ≤ y ∧ y < 18446744073709551616) : halberdref04_Do.j0 201 op wide x y (y % bitsOf wide) = some (doV op wide x y) := by
  have n := n_rg wide y
  have hd : (y % bitsOf wide) = 0 + (((y % bitsOf wide).toNat : Nat) : Int) := by omega
  rw [halberdref04_Do.j0]
  unfold doV
  have hcut := fun z => @a_cut wide z
  have op_ := op_rg op hx hy
  by_cases h6 : op = 96
  · subst h6
    obtain ⟨X, rfl⟩ := U_of hx.1 hx.2
    have e : shV 96 wide (U X) y = (U (X <<< (y % bitsOf wide).toNat), true) := by unfold shV; rw [if_pos rfl, U_shl X _ n.1 n.2]
    rw [e, if_pos rfl]
    refine Eq.trans ?_ (loop0 wide (y % bitsOf wide) n.2 (y % bitsOf wide).toNat 200 0 X (by omega) hd.symm (by omega))
    rfl
  by_cases h7 : op = 112
  · subst h7
    obtain ⟨X, rfl⟩ := U_of hx.1 hx.2
    have e : shV 112 wide (U X) y = (U (X >>> (y % bitsOf wide).toNat), true) := by unfold shV; rw [if_neg (by decide), if_pos rfl, U_shr X _ n.1 n.2]
    rw [e, if_pos rfl]
    refine Eq.trans ?_ (loop1 wide (y % bitsOf wide) n.2 (y % bitsOf wide).toNat 200 0 X (by omega) hd.symm (by omega))
    rfl
  by_cases h12 : op = 192
  · subst h12
    have e : shV 192 wide x y = (IntKind.u64.wrap (sgnOf wide x / 2 ^ (y % bitsOf wide).toNat), true) := by unfold shV; rw [if_neg (by decide), if_neg (by decide), if_pos rfl, shr_i64 _ _ n.1 n.2]
    rw [e, if_pos rfl]
    have hs := sgn_rg wide x
    refine Eq.trans ?_ (loop2 wide (y % bitsOf wide) n.2 (y % bitsOf wide).toNat 200 0 (sgnOf wide x) (by omega) hd.symm (by omega) hs.1 hs.2)
    have a := a_signed wide hx
    show (halberdref04_Signed.f 200 x wide).bind _ = _
    rw [a]
    rfl
  have es : shV op wide x y = (0, false) := by unfold shV; rw [if_neg h6, if_neg h7, if_neg h12]
  rw [es, if_neg Bool.false_ne_true]
  by_cases h0 : op = 0
  · subst h0; rw [if_pos rfl, a_cut wide (uw_rg _).1]; rfl
  by_cases h1 : op = 16
  · subst h1; rw [if_neg (by decide), if_pos rfl, a_cut wide (uw_rg _).1]; rfl
  by_cases h2 : op = 32
  · subst h2; rw [if_neg (by decide), if_neg (by decide), if_pos rfl, a_cut wide (uw_rg _).1]; rfl
  rw [if_neg h0, if_neg h1, if_neg h2]
  by_cases h3 : op = 48
  · subst h3
    rw [if_pos rfl]
    have e : opV 48 x y = (if y = 0 then 0 else IntKind.u64.wrap (Int.tdiv x y), true) := rfl
    rw [e, if_pos rfl]
    by_cases hy0 : y = 0
    · rw [if_neg (by omega), a_cut wide (by decide), if_pos hy0]; rfl
    · rw [if_pos (by omega), if_neg hy0, a_cut wide (uw_rg _).1, if_neg hy0]; rfl
  rw [if_neg h3]
  by_cases h4 : op = 64
  · subst h4; rw [if_pos rfl, a_cut wide (show 0 ≤ Go.bits .or .u64 x y from op_.1)]; rfl
  by_cases h5 : op = 80
  · subst h5; rw [if_neg (by decide), if_pos rfl, a_cut wide (show 0 ≤ Go.bits .and .u64 x y from op_.1)]; rfl
  rw [if_neg h4, if_neg h5, if_neg h6, if_neg h7]
  by_cases h8 : op = 128
  · subst h8; rw [if_pos rfl, a_cut wide (uw_rg _).1]; rfl
  rw [if_neg h8]
  by_cases h9 : op = 144
  · subst h9
    rw [if_pos rfl]
    have e : opV 144 x y = (if y = 0 then x else Int.tmod x y, true) := rfl
    rw [e] at op_ ⊢
    rw [if_pos rfl]
    by_cases hy0 : y = 0
    · rw [if_neg (by omega), a_cut wide hx.1, if_pos hy0]; rfl
    · rw [if_neg hy0] at op_
      rw [if_pos (by omega), if_neg hy0, a_cut wide op_.1, if_neg hy0]; rfl
  rw [if_neg h9]
  by_cases h10 : op = 160
  · subst h10; rw [if_pos rfl, a_cut wide (show 0 ≤ Go.bits .xor .u64 x y from op_.1)]; rfl
  by_cases h11 : op = 176
  · subst h11; rw [if_neg (by decide), if_pos rfl, a_cut wide hy.1]; rfl
  rw [if_neg h10, if_neg h11, if_neg h12]
  unfold opV
  rw [if_neg h0, if_neg h1, if_neg h2, if_neg h3, if_neg h9, if_neg h4, if_neg h5, if_neg h10, if_neg h11, if_neg h8]
  rfl
theorem refdo_val (op : Int) (wide : Bool) {a b : Int} (ha : 0 ≤ a ∧ a < 18446744073709551616) (hb : 0 ≤ b ∧ b < 18446744073709551616) : halberdref04_Do.f 201 op wide a b = some (doV op wide (lowOf wide a) (lowOf wide b)) := by
  have hx := lowOf_rg wide ha
  have hy := lowOf_rg wide hb
  have r := refj op wide hx hy
  unfold halberdref04_Do.f
  rw [a_cut wide ha.1, Option.bind_some, a_cut wide hb.1, Option.bind_some, Int.tmod_eq_emod_of_nonneg hy.1, Int.tmod_eq_emod_of_nonneg hy.1]
  cases wide with
  | true => rw [if_pos rfl]; exact r
  | false => rw [if_neg Bool.false_ne_true]; exact r
theorem xf_alive : halberdlaw08_alive.f 201 = some true := by kernel_rfl
/-- Which opcodes are operations. -/
theorem doV_is (op : Int) (wide : Bool) (x y : Int) : (doV op wide x y).2 = xfIs op := by
  unfold doV xfIs shV
  by_cases h6 : op = 96
  · subst h6; rfl
  by_cases h7 : op = 112
  · subst h7; rfl
  by_cases h12 : op = 192
  · subst h12; rfl
  rw [if_neg h6, if_neg h7, if_neg h12, if_neg Bool.false_ne_true]
  unfold opV
  by_cases h0 : op = 0
  · subst h0; rfl
  by_cases h1 : op = 16
  · subst h1; rfl
  by_cases h2 : op = 32
  · subst h2; rfl
  by_cases h3 : op = 48
  · subst h3; rfl
  by_cases h4 : op = 64
  · subst h4; rfl
  by_cases h5 : op = 80
  · subst h5; rfl
  by_cases h8 : op = 128
  · subst h8; rfl
  by_cases h9 : op = 144
  · subst h9; rfl
  by_cases h10 : op = 160
  · subst h10; rfl
  by_cases h11 : op = 176
  · subst h11; rfl
  have f : ∀ c : Int, ¬ op = c → (op == c) = false := fun c h => beq_eq_false_iff_ne.2 h
  rw [if_neg h0, if_neg h1, if_neg h2, if_neg h3, if_neg h9, if_neg h4, if_neg h5, if_neg h10, if_neg h11, if_neg h8]
  simp [f _ h0, f _ h1, f _ h2, f _ h3, f _ h4, f _ h5, f _ h6, f _ h7, f _ h8, f _ h9, f _ h10, f _ h11, f _ h12]
theorem const_ref (x : Int) : halberdref07_Const.f x = some (x, 0, x, x, wrap64 x, wrap64 x) := rfl
theorem const_num (x : Int) : num_Const.f x = some (x, 0, x, x, wrap64 x, wrap64 x) := by
  unfold num_Const.f
  rfl
theorem isConst0 (x a2 a3 a4 a5 : Int) : num_IsConst.f x 0 a2 a3 a4 a5 = some (x, true) := by
  unfold num_IsConst.f
  rw [if_pos rfl]
theorem XferNear : halberdlaw08_XferNear.Pure := by
  intro op wide x y h0 h1 h2
  have hx := u64_of h1
  have hy := u64_of h2
  refine ⟨201, ?_⟩
  unfold halberdlaw08_XferNear.f
  refine ask_ xf_alive ?_
  refine have_ (const_ref x) ?_
  refine have_ (const_ref y) ?_
  have hi := doV_is op wide (lowOf wide x) (lowOf wide y)
  have e2 := refdo_val op wide hx hy
  cases his : xfIs op with
  | false =>
    have e1 : xfer_Do.f 201 op wide x 0 x x (wrap64 x) (wrap64 x) y 0 y y (wrap64 y) (wrap64 y) = num_All.f.bind fun l => some (l.1, l.2.1, l.2.2.1, l.2.2.2.1, l.2.2.2.2.1, l.2.2.2.2.2, false) := by
      unfold xfer_Do.f
      rw [his, if_neg Bool.false_ne_true]
    obtain ⟨l, hl⟩ : ∃ l, num_All.f = some l := ⟨_, rfl⟩
    rw [hl, Option.bind_some] at e1
    refine have_ e1 ?_
    refine have_ e2 ?_
    rw [hi, his]
    rfl
  | true =>
    have e1 : xfer_Do.f 201 op wide x 0 x x (wrap64 x) (wrap64 x) y 0 y y (wrap64 y) (wrap64 y) = some ((doV op wide (lowOf wide x) (lowOf wide y)).1, 0, (doV op wide (lowOf wide x) (lowOf wide y)).1, (doV op wide (lowOf wide x) (lowOf wide y)).1, wrap64 (doV op wide (lowOf wide x) (lowOf wide y)).1, wrap64 (doV op wide (lowOf wide x) (lowOf wide y)).1, true) := by
      unfold xfer_Do.f
      rw [his, if_pos rfl, isConst0, Option.bind_some, isConst0, Option.bind_some, if_pos (show ((x, true).snd && (y, true).snd) = true from rfl)]
      dsimp only
      rw [do_val op wide hx hy, Option.bind_some, const_num, Option.bind_some]
    refine have_ e1 ?_
    refine have_ e2 ?_
    rw [hi, his]
    refine yes_ rfl ?_
    refine yes_ rfl ?_
    refine have_ (const_ref _) ?_
    simp
end Go.Proofs.Ytkgmdcibjjkhlaa.Pure
