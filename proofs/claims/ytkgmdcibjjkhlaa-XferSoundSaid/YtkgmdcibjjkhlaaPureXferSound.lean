/- The result of any numbers that are had is had: for every opcode, narrow or wide, and all numbers. -/
import Derived.Test.YtkgmdcibjjkhlaaPXferSoundx11
import Derived.Test.YtkgmdcibjjkhlaaVTB
import Derived.Lib.ItoaNum
set_option linter.unusedVariables false
set_option linter.unusedSimpArgs false
namespace Go.Proofs.Ytkgmdcibjjkhlaa.Pure
open Go.RowKit Go.Proofs.Ytkgmdcibjjkhlaa.PXferSound Go.Proofs.YtkgmdcibjjkhlaaW.PrintWords Go.Proofs.YtkgmdcibjjkhlaaW.PrintLast Go.Proofs.YtkgmdcibjjkhlaaW.PrintMore Go.Proofs.Ytkgmdcibjjkhlaa.HB Go.Proofs.Ytkgmdcibjjkhlaa.TB

/-! ### Low bytes and signs -/
def lowOf (wide : Bool) (x : Int) : Int := if wide = true then x else x % 4294967296
def sgnOf (wide : Bool) (y : Int) : Int := if wide = true then wrap64 y else if y % 4294967296 ≥ 2147483648 then y % 4294967296 - 4294967296 else y % 4294967296
theorem lowOf_rg (wide : Bool) {x : Int} (h : 0 ≤ x ∧ x < 18446744073709551616) : 0 ≤ lowOf wide x ∧ lowOf wide x < 18446744073709551616 := by
 unfold lowOf
 cases wide <;> simp only [if_true, if_false, Bool.false_eq_true] <;> omega
theorem a_zext (wide : Bool) {x : Int} (h : 0 ≤ x ∧ x < 18446744073709551616) : words_Zext.f x (if wide = true then 8 else 4) = some (lowOf wide x) := by
 cases wide with
 | false =>
  have e : words_Zext.f x 4 = some (bits .and .u64 x 4294967295) := by kernel_rfl
  refine Eq.trans e (congrArg some ?_)
  rw [and_mask x 32 4294967295 (by decide) (by decide) h.1 h.2]
  rfl
 | true =>
  have e : words_Zext.f x 8 = some (bits .and .u64 x 18446744073709551615) := by kernel_rfl
  refine Eq.trans e (congrArg some ?_)
  rw [and_mask x 64 18446744073709551615 (by decide) (by decide) h.1 h.2]
  show x % 2 ^ 64 = x
  omega
theorem a_sext (wide : Bool) {y : Int} (h : 0 ≤ y ∧ y < 18446744073709551616) : ∃ s, words_Sext.f y (if wide = true then 8 else 4) = some s ∧ wrap64 s = sgnOf wide y := by
 cases wide with
 | false =>
  refine ⟨IntKind.u64.wrap (wrap64 (IntKind.u64.wrap (y * 4294967296)) / 4294967296), by kernel_rfl, ?_⟩
  unfold sgnOf
  rw [if_neg Bool.false_ne_true]
  simp only [IntKind.wrap_u64, wrap64]
  split <;> omega
 | true =>
  refine ⟨IntKind.u64.wrap (wrap64 (IntKind.u64.wrap (y * 1)) / 1), by kernel_rfl, ?_⟩
  unfold sgnOf
  rw [if_pos rfl]
  simp only [IntKind.wrap_u64, wrap64]
  omega
theorem a_cut (wide : Bool) {x : Int} (h : 0 ≤ x) : halberdref04_cut.f x wide = some (lowOf wide x) := by
 unfold halberdref04_cut.f lowOf
 cases wide with
 | false => rw [if_neg Bool.false_ne_true, if_neg Bool.false_ne_true, Int.tmod_eq_emod_of_nonneg h]
 | true => rw [if_pos rfl, if_pos rfl]
theorem a_signed (wide : Bool) {y : Int} (h : 0 ≤ y ∧ y < 18446744073709551616) : halberdref04_Signed.f 200 y wide = some (sgnOf wide y) := by
 unfold halberdref04_Signed.f sgnOf
 cases wide with
 | true => rw [if_pos rfl, if_pos rfl]
 | false =>
  rw [if_neg Bool.false_ne_true, if_neg Bool.false_ne_true]
  have e2 : halberdref01_Sext.f 200 y 4 = if Int.tmod y 4294967296 ≥ 2147483648 then some (IntKind.u64.wrap (Int.tmod y 4294967296 - 4294967296)) else some (Int.tmod y 4294967296) := by kernel_rfl
  rw [e2, Int.tmod_eq_emod_of_nonneg h.1]
  by_cases c : y % 4294967296 ≥ 2147483648
  ·rw [if_pos c, if_pos c, Option.bind_some]
   congr 1
   simp only [IntKind.wrap_u64, wrap64]
   omega
  ·rw [if_neg c, if_neg c, Option.bind_some]
   congr 1
   simp only [wrap64]
   omega
/-! ### What an operation tells -/
def bitsOf (wide : Bool) : Int := if wide = true then 64 else 32
def shV (op : Int) (wide : Bool) (x y : Int) : Int × Bool := if op = 96 then (shl .u64 x (y % bitsOf wide), true) else if op = 112 then (shr .u64 x (y % bitsOf wide), true) else if op = 192 then (IntKind.u64.wrap (shr .i64 (sgnOf wide x) (y % bitsOf wide)), true) else (0, false)
theorem sh_val (op : Int) (wide : Bool) {x y : Int} (hx : 0 ≤ x ∧ x < 18446744073709551616) (hy : 0 ≤ y) : alu_shift.f op (if wide = true then 64 else 32) x y = some (shV op wide x y) := by
 obtain ⟨s, e1, e2⟩ := a_sext wide hx
 have hb : (if wide = true then (64 : Int) else 32) = bitsOf wide := rfl
 have hp : 0 < bitsOf wide := by unfold bitsOf; split <;> decide
 have hn : ¬ bitsOf wide = 0 := by omega
 have hm : Int.tmod y (bitsOf wide) = y % bitsOf wide := Int.tmod_eq_emod_of_nonneg hy
 have h0 : 0 ≤ y % bitsOf wide := Int.emod_nonneg _ hn
 have hs : wrap64 (Int.tdiv (wrap64 (bitsOf wide)) 8) = (if wide = true then 8 else 4) := by cases wide <;> kernel_rfl
 unfold alu_shift.f shV
 rw [hb, if_neg hn, hm, hs, e1, Option.bind_some, e2, if_pos h0, if_pos h0, if_pos h0]
 by_cases h1 : op = 96
 ·rw [if_pos h1, if_pos h1]
 rw [if_neg h1, if_neg h1]
 by_cases h2 : op = 112
 ·rw [if_pos h2, if_pos h2]
 rw [if_neg h2, if_neg h2]
 by_cases h3 : op = 192
 ·rw [if_pos h3, if_pos h3]
 rw [if_neg h3, if_neg h3]
theorem n_rg (wide : Bool) (y : Int) : 0 ≤ y % bitsOf wide ∧ y % bitsOf wide < 64 := by
 unfold bitsOf; cases wide <;> simp only [if_true, if_false, Bool.false_eq_true] <;> omega
theorem sh_rg (op : Int) (wide : Bool) {x y : Int} (hx : 0 ≤ x ∧ x < 18446744073709551616) : 0 ≤ (shV op wide x y).1 ∧ (shV op wide x y).1 < 18446744073709551616 := by
 obtain ⟨X, rfl⟩ := U_of hx.1 hx.2
 have n := n_rg wide y
 unfold shV
 split
 ·rw [U_shl X _ n.1 n.2]; exact ⟨U_lo _, U_hi _⟩
 split
 ·rw [U_shr X _ n.1 n.2]; exact ⟨U_lo _, U_hi _⟩
 split
 ·show 0 ≤ IntKind.u64.wrap _ ∧ IntKind.u64.wrap _ < _
  rw [IntKind.wrap_u64]; omega
 ·exact ⟨by decide, by decide⟩
def opV (op a b : Int) : Int × Bool := if op = 0 then (IntKind.u64.wrap (a + b), true) else if op = 16 then (IntKind.u64.wrap (a - b), true) else if op = 32 then (IntKind.u64.wrap (a * b), true) else if op = 48 then (if b = 0 then 0 else IntKind.u64.wrap (Int.tdiv a b), true) else if op = 144 then (if b = 0 then a else Int.tmod a b, true) else if op = 64 then (Go.bits .or .u64 a b, true) else if op = 80 then (Go.bits .and .u64 a b, true) else if op = 160 then (Go.bits .xor .u64 a b, true) else if op = 176 then (b, true) else if op = 128 then (IntKind.u64.wrap (-a), true) else (0, false)
theorem op_val (op a b : Int) : alu_op.f op a b = some (opV op a b) := by
 unfold alu_op.f opV
 by_cases h0 : op = 0
 ·rw [if_pos h0, if_pos h0]
 rw [if_neg h0, if_neg h0]
 by_cases h1 : op = 16
 ·rw [if_pos h1, if_pos h1]
 rw [if_neg h1, if_neg h1]
 by_cases h2 : op = 32
 ·rw [if_pos h2, if_pos h2]
 rw [if_neg h2, if_neg h2]
 by_cases h3 : op = 48
 ·rw [if_pos h3, if_pos h3]; unfold alu_div.f; by_cases hb : b = 0
  ·rw [if_pos hb, if_pos hb]; rfl
  ·rw [if_neg hb, if_neg hb]; rfl
 rw [if_neg h3, if_neg h3]
 by_cases h4 : op = 144
 ·rw [if_pos h4, if_pos h4]; unfold alu_mod.f; by_cases hb : b = 0
  ·rw [if_pos hb, if_pos hb]; rfl
  ·rw [if_neg hb, if_neg hb]; rfl
 rw [if_neg h4, if_neg h4]
 by_cases h5 : op = 64
 ·rw [if_pos h5, if_pos h5]
 rw [if_neg h5, if_neg h5]
 by_cases h6 : op = 80
 ·rw [if_pos h6, if_pos h6]
 rw [if_neg h6, if_neg h6]
 by_cases h7 : op = 160
 ·rw [if_pos h7, if_pos h7]
 rw [if_neg h7, if_neg h7]
 by_cases h8 : op = 176
 ·rw [if_pos h8, if_pos h8]
 rw [if_neg h8, if_neg h8]
 by_cases h9 : op = 128
 ·rw [if_pos h9, if_pos h9]
 rw [if_neg h9, if_neg h9]
theorem uw_rg (z : Int) : 0 ≤ IntKind.u64.wrap z ∧ IntKind.u64.wrap z < 18446744073709551616 := by rw [IntKind.wrap_u64]; omega
theorem op_rg (op : Int) {a b : Int} (ha : 0 ≤ a ∧ a < 18446744073709551616) (hb : 0 ≤ b ∧ b < 18446744073709551616) : 0 ≤ (opV op a b).1 ∧ (opV op a b).1 < 18446744073709551616 := by
 obtain ⟨A, rfl⟩ := U_of ha.1 ha.2
 obtain ⟨B, rfl⟩ := U_of hb.1 hb.2
 unfold opV
 split
 ·exact uw_rg _
 split
 ·exact uw_rg _
 split
 ·exact uw_rg _
 split
 ·dsimp only
  split
  ·exact ⟨by decide, by decide⟩
  ·exact uw_rg _
 split
 ·dsimp only
  split
  ·exact ha
  ·rename_i h
   rw [Int.tmod_eq_emod_of_nonneg ha.1]
   exact ⟨Int.emod_nonneg _ h, Int.lt_trans (Int.emod_lt_of_pos _ (by omega)) hb.2⟩
 split
 ·rw [U_or]; exact ⟨U_lo _, U_hi _⟩
 split
 ·rw [U_and]; exact ⟨U_lo _, U_hi _⟩
 split
 ·rw [U_xor]; exact ⟨U_lo _, U_hi _⟩
 split
 ·exact hb
 split
 ·exact uw_rg _
 ·exact ⟨by decide, by decide⟩
def doV (op : Int) (wide : Bool) (x y : Int) : Int × Bool := if (shV op wide x y).2 = true then (lowOf wide (shV op wide x y).1, true) else if (opV op x y).2 = true then (lowOf wide (opV op x y).1, true) else (0, false)
theorem do_val (op : Int) (wide : Bool) {a b : Int} (ha : 0 ≤ a ∧ a < 18446744073709551616) (hb : 0 ≤ b ∧ b < 18446744073709551616) : alu_Do.f op wide a b = some (doV op wide (lowOf wide a) (lowOf wide b)) := by
 have hx := lowOf_rg wide ha
 have hy := lowOf_rg wide hb
 unfold alu_Do.f doV
 rw [a_zext wide ha, Option.bind_some, a_zext wide hb, Option.bind_some, sh_val op wide hx hy.1, Option.bind_some]
 by_cases h1 : (shV op wide (lowOf wide a) (lowOf wide b)).2 = true
 ·rw [if_pos h1, if_pos h1, a_zext wide (sh_rg op wide hx), Option.bind_some]
 ·rw [if_neg h1, if_neg h1, op_val, Option.bind_some]
  by_cases h2 : (opV op (lowOf wide a) (lowOf wide b)).2 = true
  ·rw [if_pos h2, if_pos h2, a_zext wide (op_rg op hx hy), Option.bind_some]
  ·rw [if_neg h2, if_neg h2]
theorem U_halfW (x : BitVec 64) : IntKind.u64.wrap (Int.tdiv (U x) 2) = U (x >>> 1) := by
 rw [Int.tdiv_eq_ediv_of_nonneg (U_lo x), wrap_u64_id (by have := U_lo x; omega) (by have := U_hi x; omega)]
 have := U_shr x 1 (by decide) (by decide)
 unfold shr at this
 exact this
theorem U_dbl (x : BitVec 64) : IntKind.u64.wrap (2 * U x) = U (x <<< 1) := by
 have := U_shl x 1 (by decide) (by decide)
 unfold shl at this
 rw [Int.mul_comm]
 exact this
theorem step1 {i n : Int} (h0 : 0 ≤ i) (h : i < n) (hn : n < 64) : IntKind.u64.wrap (i + 1) = i + 1 := by rw [IntKind.wrap_u64]; omega
theorem loop0 (wide : Bool) (n : Int) (hn : n < 64) : ∀ (d k : Nat) (i : Int) (X : BitVec 64), 0 ≤ i → i + d = n → d < k → halberdref04_Do.l0 k wide n (U X) i = some (lowOf wide (U (X <<< d)), true) := by
 intro d
 induction d with
 | zero =>
  intro k i X h0 h1 hk
  obtain ⟨k, rfl⟩ : ∃ m, k = m + 1 := ⟨k - 1, by omega⟩
  rw [halberdref04_Do.l0, if_neg (by omega), a_cut wide (U_lo X), Option.bind_some, BitVec.shiftLeft_zero]
 | succ d ih =>
  intro k i X h0 h1 hk
  obtain ⟨k, rfl⟩ : ∃ m, k = m + 1 := ⟨k - 1, by omega⟩
  rw [halberdref04_Do.l0, if_pos (by omega), U_dbl, step1 h0 (n := n) (by omega) hn, ih k (i + 1) _ (by omega) (by omega) (by omega), ← BitVec.shiftLeft_add, Nat.add_comm 1 d]
theorem loop1 (wide : Bool) (n : Int) (hn : n < 64) : ∀ (d k : Nat) (i : Int) (X : BitVec 64), 0 ≤ i → i + d = n → d < k → halberdref04_Do.l1 k wide n (U X) i = some (lowOf wide (U (X >>> d)), true) := by
 intro d
 induction d with
 | zero =>
  intro k i X h0 h1 hk
  obtain ⟨k, rfl⟩ : ∃ m, k = m + 1 := ⟨k - 1, by omega⟩
  rw [halberdref04_Do.l1, if_neg (by omega), a_cut wide (U_lo X), Option.bind_some, BitVec.ushiftRight_zero]
 | succ d ih =>
  intro k i X h0 h1 hk
  obtain ⟨k, rfl⟩ : ∃ m, k = m + 1 := ⟨k - 1, by omega⟩
  rw [halberdref04_Do.l1, if_pos (by omega), U_halfW, step1 h0 (n := n) (by omega) hn, ih k (i + 1) _ (by omega) (by omega) (by omega), ← BitVec.shiftRight_add, Nat.add_comm 1 d]
theorem half_neg {s : Int} (h0 : s < 0) (h1 : -9223372036854775808 ≤ s) : (Int.tmod s 2 = 0 → wrap64 (Int.tdiv s 2) = s / 2) ∧ (¬ Int.tmod s 2 = 0 → wrap64 (wrap64 (Int.tdiv s 2) - 1) = s / 2) := by
 obtain ⟨m, rfl⟩ : ∃ m : Int, s = -m := ⟨-s, by omega⟩
 rw [Int.neg_tmod, Int.neg_tdiv, Int.tmod_eq_emod_of_nonneg (by omega), Int.tdiv_eq_ediv_of_nonneg (by omega)]
 unfold wrap64
 constructor <;> intro h <;> omega
theorem half_pos {s : Int} (h0 : ¬ s < 0) (h1 : s < 9223372036854775808) : wrap64 (Int.tdiv s 2) = s / 2 := by
 rw [Int.tdiv_eq_ediv_of_nonneg (by omega)]
 unfold wrap64
 omega
theorem loop2 (wide : Bool) (n : Int) (hn : n < 64) : ∀ (d k : Nat) (i s : Int), 0 ≤ i → i + d = n → d < k → -9223372036854775808 ≤ s → s < 9223372036854775808 → halberdref04_Do.l2 k wide n s i = some (lowOf wide (IntKind.u64.wrap (s / 2 ^ d)), true) := by
 intro d
 induction d with
 | zero =>
  intro k i s h0 h1 hk h2 h3
  obtain ⟨k, rfl⟩ : ∃ m, k = m + 1 := ⟨k - 1, by omega⟩
  rw [halberdref04_Do.l2, if_neg (by omega), a_cut wide (uw_rg s).1, Option.bind_some, Int.pow_zero, Int.ediv_one]
 | succ d ih =>
  intro k i s h0 h1 hk h2 h3
  obtain ⟨k, rfl⟩ : ∃ m, k = m + 1 := ⟨k - 1, by omega⟩
  have e : s / 2 ^ (d + 1) = s / 2 / 2 ^ d := by
   rw [Int.ediv_ediv_of_nonneg (by decide), Int.pow_succ, Int.mul_comm]
  have next := ih k (i + 1) (s / 2) (by omega) (by omega) (by omega) (by omega) (by omega)
  rw [halberdref04_Do.l2, if_pos (by omega), step1 h0 (n := n) (by omega) hn, e]
  by_cases c : s < 0
  ·obtain ⟨q1, q2⟩ := half_neg c h2
   rw [if_pos c]
   by_cases p : Int.tmod s 2 = 0
   ·rw [if_pos p, q1 p, next]
   ·rw [if_neg p, q2 p, next]
  ·rw [if_neg c, half_pos c h3, next]
theorem sgn_rg (wide : Bool) (y : Int) : -9223372036854775808 ≤ sgnOf wide y ∧ sgnOf wide y < 9223372036854775808 := by
 unfold sgnOf
 split
 ·unfold wrap64; omega
 ·split <;> omega
theorem shr_i64 (s n : Int) (h0 : 0 ≤ n) (h1 : n < 64) : shr .i64 s n = s / 2 ^ n.toNat := by
 unfold shr
 have e : min n.toNat IntKind.i64.bits = n.toNat := by
  have : IntKind.i64.bits = 64 := rfl
  rw [this]; omega
 rw [e]
theorem refj (op : Int) (wide : Bool) {x y : Int} (hx : 0 ≤ x ∧ x < 18446744073709551616) (hy : 0 ≤ y ∧ y < 18446744073709551616) : halberdref04_Do.j0 201 op wide x y (y % bitsOf wide) = some (doV op wide x y) := by
 have n := n_rg wide y
 have hd : (y % bitsOf wide) = 0 + (((y % bitsOf wide).toNat : Nat) : Int) := by omega
 rw [halberdref04_Do.j0]
 unfold doV
 have hcut := fun z => @a_cut wide z
 have op_ := op_rg op hx hy
 by_cases h6 : op = 96
 ·subst h6
  obtain ⟨X, rfl⟩ := U_of hx.1 hx.2
  have e : shV 96 wide (U X) y = (U (X <<< (y % bitsOf wide).toNat), true) := by unfold shV; rw [if_pos rfl, U_shl X _ n.1 n.2]
  rw [e, if_pos rfl]
  refine Eq.trans ?_ (loop0 wide (y % bitsOf wide) n.2 (y % bitsOf wide).toNat 200 0 X (by omega) hd.symm (by omega))
  rfl
 by_cases h7 : op = 112
 ·subst h7
  obtain ⟨X, rfl⟩ := U_of hx.1 hx.2
  have e : shV 112 wide (U X) y = (U (X >>> (y % bitsOf wide).toNat), true) := by unfold shV; rw [if_neg (by decide), if_pos rfl, U_shr X _ n.1 n.2]
  rw [e, if_pos rfl]
  refine Eq.trans ?_ (loop1 wide (y % bitsOf wide) n.2 (y % bitsOf wide).toNat 200 0 X (by omega) hd.symm (by omega))
  rfl
 by_cases h12 : op = 192
 ·subst h12
  have e : shV 192 wide x y = (IntKind.u64.wrap (sgnOf wide x / 2 ^ (y % bitsOf wide).toNat), true) := by unfold shV; rw [if_neg (by decide), if_neg (by decide), if_pos rfl, shr_i64 _ _ n.1 n.2]
  rw [e, if_pos rfl]
  have hs := sgn_rg wide x
  refine Eq.trans ?_ (loop2 wide (y % bitsOf wide) n.2 (y % bitsOf wide).toNat 200 0 (sgnOf wide x) (by omega) hd.symm (by omega) hs.1 hs.2)
  have a := a_signed wide hx
  show (halberdref04_Signed.f 200 x wide).bind _ = _
  rw [a]
  rfl
 have es : shV op wide x y = (0, false) := by unfold shV; rw [if_neg h6, if_neg h7, if_neg h12]
 rw [es, if_neg Bool.false_ne_true]
 by_cases h0 : op = 0
 ·subst h0; rw [if_pos rfl, a_cut wide (uw_rg _).1]; rfl
 by_cases h1 : op = 16
 ·subst h1; rw [if_neg (by decide), if_pos rfl, a_cut wide (uw_rg _).1]; rfl
 by_cases h2 : op = 32
 ·subst h2; rw [if_neg (by decide), if_neg (by decide), if_pos rfl, a_cut wide (uw_rg _).1]; rfl
 rw [if_neg h0, if_neg h1, if_neg h2]
 by_cases h3 : op = 48
 ·subst h3
  rw [if_pos rfl]
  have e : opV 48 x y = (if y = 0 then 0 else IntKind.u64.wrap (Int.tdiv x y), true) := rfl
  rw [e, if_pos rfl]
  by_cases hy0 : y = 0
  ·rw [if_neg (by omega), a_cut wide (by decide), if_pos hy0]; rfl
  ·rw [if_pos (by omega), if_neg hy0, a_cut wide (uw_rg _).1, if_neg hy0]; rfl
 rw [if_neg h3]
 by_cases h4 : op = 64
 ·subst h4; rw [if_pos rfl, a_cut wide (show 0 ≤ Go.bits .or .u64 x y from op_.1)]; rfl
 by_cases h5 : op = 80
 ·subst h5; rw [if_neg (by decide), if_pos rfl, a_cut wide (show 0 ≤ Go.bits .and .u64 x y from op_.1)]; rfl
 rw [if_neg h4, if_neg h5, if_neg h6, if_neg h7]
 by_cases h8 : op = 128
 ·subst h8; rw [if_pos rfl, a_cut wide (uw_rg _).1]; rfl
 rw [if_neg h8]
 by_cases h9 : op = 144
 ·subst h9
  rw [if_pos rfl]
  have e : opV 144 x y = (if y = 0 then x else Int.tmod x y, true) := rfl
  rw [e] at op_ ⊢
  rw [if_pos rfl]
  by_cases hy0 : y = 0
  ·rw [if_neg (by omega), a_cut wide hx.1, if_pos hy0]; rfl
  ·rw [if_neg hy0] at op_
   rw [if_pos (by omega), if_neg hy0, a_cut wide op_.1, if_neg hy0]; rfl
 rw [if_neg h9]
 by_cases h10 : op = 160
 ·subst h10; rw [if_pos rfl, a_cut wide (show 0 ≤ Go.bits .xor .u64 x y from op_.1)]; rfl
 by_cases h11 : op = 176
 ·subst h11; rw [if_neg (by decide), if_pos rfl, a_cut wide hy.1]; rfl
 rw [if_neg h10, if_neg h11, if_neg h12]
 unfold opV
 rw [if_neg h0, if_neg h1, if_neg h2, if_neg h3, if_neg h9, if_neg h4, if_neg h5, if_neg h10, if_neg h11, if_neg h8]
 rfl
theorem refdo_val (op : Int) (wide : Bool) {a b : Int} (ha : 0 ≤ a ∧ a < 18446744073709551616) (hb : 0 ≤ b ∧ b < 18446744073709551616) : halberdref04_Do.f 201 op wide a b = some (doV op wide (lowOf wide a) (lowOf wide b)) := by
 have hx := lowOf_rg wide ha
 have hy := lowOf_rg wide hb
 have r := refj op wide hx hy
 unfold halberdref04_Do.f
 rw [a_cut wide ha.1, Option.bind_some, a_cut wide hb.1, Option.bind_some, Int.tmod_eq_emod_of_nonneg hy.1, Int.tmod_eq_emod_of_nonneg hy.1]
 cases wide with
 | true => rw [if_pos rfl]; exact r
 | false => rw [if_neg Bool.false_ne_true]; exact r
theorem t_right (v m : W) : tnum_right.f (U v) (U m) = some (U (lo v m), U m) := by
 unfold tnum_right.f
 rw [U_andNot]
 rfl
theorem t_add (va ma vb mb : W) : tnum_Add.f (U va) (U ma) (U vb) (U mb) = some (U (lo (lo va ma + lo vb mb) (addMask va ma vb mb)), U (addMask va ma vb mb)) := by
 unfold tnum_Add.f
 simp only [t_right, Option.bind_some, U_add, U_xor, U_or]
 rfl
theorem t_sub (va ma vb mb : W) : tnum_Sub.f (U va) (U ma) (U vb) (U mb) = some (U (lo (lo va ma - lo vb mb) (subMask va ma vb mb)), U (subMask va ma vb mb)) := by
 unfold tnum_Sub.f
 simp only [t_right, Option.bind_some, U_sub, U_add, U_xor, U_or]
 rfl
theorem t_and (va ma vb mb : W) : tnum_And.f (U va) (U ma) (U vb) (U mb) = some (U (lo va ma &&& lo vb mb), U (((lo va ma ||| ma) &&& (lo vb mb ||| mb)) &&& ~~~(lo va ma &&& lo vb mb))) := by
 unfold tnum_And.f
 simp only [t_right, Option.bind_some, U_and, U_or, U_andNot]
theorem t_or (va ma vb mb : W) : tnum_Or.f (U va) (U ma) (U vb) (U mb) = some (U (lo va ma ||| lo vb mb), U ((ma ||| mb) &&& ~~~(lo va ma ||| lo vb mb))) := by
 unfold tnum_Or.f
 simp only [t_right, Option.bind_some, U_and, U_or, U_andNot]
theorem t_xor (va ma vb mb : W) : tnum_Xor.f (U va) (U ma) (U vb) (U mb) = some (U (lo (lo va ma ^^^ lo vb mb) (ma ||| mb)), U (ma ||| mb)) := by
 unfold tnum_Xor.f
 simp only [t_right, Option.bind_some, U_xor, U_or]
theorem t_mod (n : W) : 0 ≤ Int.tmod (U n) 64 ∧ Int.tmod (U n) 64 < 64 := by
 rw [Int.tmod_eq_emod_of_nonneg (U_lo n)]; omega
theorem t_lsh (v m n : W) : tnum_Lsh.f (U v) (U m) (U n) = some (U (lo v m <<< (Int.tmod (U n) 64).toNat), U (m <<< (Int.tmod (U n) 64).toNat)) := by
 unfold tnum_Lsh.f
 have h := t_mod n
 simp only [t_right, Option.bind_some]
 rw [if_pos h.1, U_shl _ _ h.1 h.2, U_shl _ _ h.1 h.2]
theorem t_rsh (v m n : W) : tnum_Rsh.f (U v) (U m) (U n) = some (U (lo v m >>> (Int.tmod (U n) 64).toNat), U (m >>> (Int.tmod (U n) 64).toNat)) := by
 unfold tnum_Rsh.f
 have h := t_mod n
 simp only [t_right, Option.bind_some]
 rw [if_pos h.1, U_shr _ _ h.1 h.2, U_shr _ _ h.1 h.2]
theorem t_arsh (v m n : W) : tnum_Arsh.f (U v) (U m) (U n) = some (U ((lo v m).sshiftRight (Int.tmod (U n) 64).toNat), U (m.sshiftRight (Int.tmod (U n) 64).toNat)) := by
 unfold tnum_Arsh.f
 have h := t_mod n
 simp only [t_right, Option.bind_some]
 rw [if_pos h.1, U_sshr _ _ h.1 h.2, U_sshr _ _ h.1 h.2]
theorem t_zext4 (x : W) : words_Zext.f (U x) 4 = some (U (x &&& 4294967295#64)) := by
 have e : words_Zext.f (U x) 4 = some (Go.bits .and .u64 (U x) (U 4294967295#64)) := by kernel_rfl
 rw [e, U_and]
theorem t_cut4 (v m : W) : tnum_Cut.f (U v) (U m) 4 = some (U (lo v m &&& 4294967295#64), U (m &&& 4294967295#64)) := by
 unfold tnum_Cut.f
 simp only [t_right, Option.bind_some, t_zext4]
theorem t_low4 (x : W) : Int.tmod (U x) 4294967296 = U (x &&& 4294967295#64) := by
 rw [← U_and, Int.tmod_eq_emod_of_nonneg (U_lo x)]
 exact (and_mask (U x) 32 4294967295 (by decide) (by decide) (U_lo x) (U_hi x)).symm

/-! ### The document's way: bit by bit -/
/-- Bit number i of a whole number. -/
def ib (x : W) (i : Nat) : Bool := x.getLsbD i
theorem U_half (x : W) : IntKind.u64.wrap (Int.tdiv (U x) 2) = U (x >>> 1) := by
 rw [Int.tdiv_eq_ediv_of_nonneg (U_lo x), wrap_u64_id (by have := U_lo x; omega) (by have := U_hi x; omega)]
 have := U_shr x 1 (by decide) (by decide)
 unfold shr at this
 exact this
theorem U_odd (x : W) : Int.tmod (U x) 2 = if x.getLsbD 0 = true then 1 else 0 := by
 rw [Int.tmod_eq_emod_of_nonneg (U_lo x)]
 unfold U
 have e : x.getLsbD 0 = decide (x.toNat % 2 = 1) := by
  rw [← BitVec.testBit_toNat, Nat.testBit_zero]
 rw [e]
 by_cases h : x.toNat % 2 = 1
 ·rw [if_pos (by simpa using h)]; omega
 ·rw [if_neg (by simpa using h)]; omega
theorem bit_loop (v m : W) (i : Nat) (hi : i ≤ 64) : ∀ (d k j : Nat), j + d = i → d < k →
  halberdref06_Bit.l0 k i (U (m >>> j)) (U (v >>> j)) j = some (m.getLsbD i || !v.getLsbD i, m.getLsbD i || v.getLsbD i) := by
 intro d
 induction d with
 | zero =>
  intro k j hj hk
  obtain ⟨k, rfl⟩ : ∃ n, k = n + 1 := ⟨k - 1, by omega⟩
  obtain rfl : j = i := by omega
  simp only [halberdref06_Bit.l0]
  rw [if_neg (by omega), U_odd, U_odd, BitVec.getLsbD_ushiftRight, BitVec.getLsbD_ushiftRight, Nat.add_zero]
  cases hm : m.getLsbD j <;> cases hv : v.getLsbD j <;> simp
 | succ d ih =>
  intro k j hj hk
  obtain ⟨k, rfl⟩ : ∃ n, k = n + 1 := ⟨k - 1, by omega⟩
  simp only [halberdref06_Bit.l0]
  have e3 : wrap64 ((j : Int) + 1) = ((j + 1 : Nat) : Int) := by unfold wrap64; omega
  rw [if_pos (by omega), U_half, U_half, e3, ← BitVec.shiftRight_add, ← BitVec.shiftRight_add]
  exact ih k (j + 1) (by omega) (by omega)
theorem bit_val (v m : W) (i k : Nat) (hi : i ≤ 64) (hk : i < k) : halberdref06_Bit.f k (U v) (U m) i = some (m.getLsbD i || !v.getLsbD i, m.getLsbD i || v.getLsbD i) := by
 unfold halberdref06_Bit.f
 have := bit_loop v m i hi i k 0 (by omega) hk
 simpa using this
theorem rhas_loop (v m x : W) : ∀ (d k j : Nat), j + d = 64 → d + 65 < k →
  ∃ r, halberdref06_Has.l0 k (U (x >>> j)) j (U v) (U m) = some r ∧ (r = true ↔ ∀ i, i < 64 → j ≤ i → (x.getLsbD i && !m.getLsbD i) = (v.getLsbD i && !m.getLsbD i)) := by
 intro d
 induction d with
 | zero =>
  intro k j hj hk
  obtain ⟨k, rfl⟩ : ∃ n, k = n + 1 := ⟨k - 1, by omega⟩
  refine ⟨true, ?_, by simp; intro i h1 h2; omega⟩
  simp only [halberdref06_Has.l0]
  rw [if_neg (by omega)]
 | succ d ih =>
  intro k j hj hk
  obtain ⟨k, rfl⟩ : ∃ n, k = n + 1 := ⟨k - 1, by omega⟩
  obtain ⟨r, hr, hiff⟩ := ih k (j + 1) (by omega) (by omega)
  simp only [halberdref06_Has.l0]
  have e3 : wrap64 ((j : Int) + 1) = ((j + 1 : Nat) : Int) := by unfold wrap64; omega
  rw [if_pos (by omega), bit_val v m j k (by omega) (by omega), U_half, e3, ← BitVec.shiftRight_add, hr, U_odd, BitVec.getLsbD_ushiftRight, Nat.add_zero]
  simp only [Option.bind_some]
  by_cases hb : (x.getLsbD j && !m.getLsbD j) = (v.getLsbD j && !m.getLsbD j)
  ·refine ⟨r, ?_, ?_⟩
   ·clear hiff hr ih
    revert hb
    cases x.getLsbD j <;> cases m.getLsbD j <;> cases v.getLsbD j <;> simp
   ·rw [hiff]
    constructor
    ·intro h i h1 h2
     by_cases hij : i = j
     ·subst hij; exact hb
     ·exact h i h1 (by omega)
    ·intro h i h1 h2
     exact h i h1 (by omega)
  ·refine ⟨false, ?_, ?_⟩
   ·clear hiff hr ih
    revert hb
    cases x.getLsbD j <;> cases m.getLsbD j <;> cases v.getLsbD j <;> simp
   ·constructor
    ·intro h; exact absurd h (by simp)
    ·intro h; exact absurd (h j (by omega) (Nat.le_refl j)) hb
theorem rhas_val (v m x : W) (k : Nat) (hk : 129 < k) : halberdref06_Has.f k (U v) (U m) (U x) = some (decide (Has v m x)) := by
 unfold halberdref06_Has.f
 obtain ⟨r, hr, hiff⟩ := rhas_loop v m x 64 k 0 (by omega) (by omega)
 have e0 : x >>> 0 = x := by simp
 rw [e0, show ((0 : Nat) : Int) = 0 from rfl] at hr
 rw [hr]
 congr 1
 rw [Bool.eq_iff_iff, hiff, decide_eq_true_eq]
 constructor
 ·intro h; exact has_of fun i hi => h i hi (Nat.zero_le i)
 ·intro h i hi _; exact has_bit h hi
theorem rhas07 (v m x : W) (a2 a3 a4 a5 : Int) (k : Nat) (hk : 129 < k) : halberdref07_Has.f k (U v) (U m) a2 a3 a4 a5 (U x) = some (decide (Has v m x ∧ a2 ≤ U x ∧ U x ≤ a3 ∧ a4 ≤ wrap64 (U x) ∧ wrap64 (U x) ≤ a5)) := by
 unfold halberdref07_Has.f
 refine have_ (rhas_val v m x k hk) ?_
 by_cases h0 : Has v m x <;> by_cases h1 : a2 ≤ U x <;> by_cases h2 : U x ≤ a3 <;> by_cases h3 : a4 ≤ wrap64 (U x) <;> simp [h0, h1, h2, h3]
/-! ### What is known of a number: which numbers it has -/
def NH (v m : W) (a2 a3 a4 a5 : Int) (x : W) : Prop := Has v m x ∧ a2 ≤ U x ∧ U x ≤ a3 ∧ a4 ≤ wrap64 (U x) ∧ wrap64 (U x) ≤ a5
instance (v m : W) (a2 a3 a4 a5 : Int) (x : W) : Decidable (NH v m a2 a3 a4 a5 x) := inferInstanceAs (Decidable (_ ∧ _))
/-- The bounds are numbers of their kinds. -/
def RG (a2 a3 a4 a5 : Int) : Prop := 0 ≤ a2 ∧ a2 < 18446744073709551616 ∧ 0 ≤ a3 ∧ a3 < 18446744073709551616 ∧ -9223372036854775808 ≤ a4 ∧ a4 < 9223372036854775808 ∧ -9223372036854775808 ≤ a5 ∧ a5 < 9223372036854775808
def topW : W := 9223372036854775808#64
theorem topW_U : (9223372036854775808 : Int) = U topW := rfl
theorem topW_bit (i : Nat) (hi : i < 64) : topW.getLsbD i = decide (i = 63) := by
 have key : ∀ i : Fin 64, topW.getLsbD i.val = decide (i.val = 63) := by decide
 exact key ⟨i, hi⟩
theorem In.leU {a b : W} (h : In a b) : U a ≤ U b := by
 have := h.mod_le 64
 rw [Nat.mod_eq_of_lt a.isLt, Nat.mod_eq_of_lt b.isLt] at this
 unfold U
 omega
theorem top63 (x : W) : x.getLsbD 63 = decide (9223372036854775808 ≤ U x) := by
 have h := BitVec.msb_eq_decide x
 rw [BitVec.msb_eq_getLsbD_last] at h
 have e : x.getLsbD 63 = x.getLsbD (64 - 1) := rfl
 rw [e, h]
 unfold U
 rw [Bool.eq_iff_iff, decide_eq_true_eq, decide_eq_true_eq]
 constructor
 ·intro h; have : (2 : Nat) ^ (64 - 1) = 9223372036854775808 := rfl
  omega
 ·intro h; have : (2 : Nat) ^ (64 - 1) = 9223372036854775808 := rfl
  omega
theorem top_and (a b : W) : ((U (a &&& topW) == U (b &&& topW)) = true) ↔ a.getLsbD 63 = b.getLsbD 63 := by
 rw [beq_iff_eq, U_inj]
 constructor
 ·intro h
  have h2 : (a &&& topW).getLsbD 63 = (b &&& topW).getLsbD 63 := by rw [h]
  rw [BitVec.getLsbD_and, BitVec.getLsbD_and, topW_bit 63 (by decide)] at h2
  have e : decide (63 = 63) = true := rfl
  rwa [e, Bool.and_true, Bool.and_true] at h2
 ·intro h
  apply BitVec.eq_of_getLsbD_eq
  intro i hi
  rw [BitVec.getLsbD_and, BitVec.getLsbD_and, topW_bit i hi]
  by_cases e : i = 63
  ·subst e; rw [h]
  ·simp [e]
/-- The least number with a sign of a pattern, and the greatest. -/
def slo (v m : W) : W := lo v m ||| (m &&& topW)
def shi (v m : W) : W := lo v m ||| (m &&& ~~~topW)
theorem slo63 (v m : W) : (slo v m).getLsbD 63 = ((lo v m).getLsbD 63 || m.getLsbD 63) := by
 unfold slo
 rw [BitVec.getLsbD_or, BitVec.getLsbD_and, topW_bit 63 (by decide)]
 have e : decide (63 = 63) = true := rfl
 rw [e, Bool.and_true]
theorem shi63 (v m : W) : (shi v m).getLsbD 63 = (lo v m).getLsbD 63 := by
 unfold shi
 rw [BitVec.getLsbD_or, BitVec.getLsbD_and, BitVec.getLsbD_not, topW_bit 63 (by decide)]
 have e : decide (63 = 63) = true := rfl
 rw [e]
 cases (lo v m).getLsbD 63 <;> cases m.getLsbD 63 <;> rfl
theorem slo_bit {v m : W} {i : Nat} (hi : i < 64) (h : i ≠ 63) : (slo v m).getLsbD i = (lo v m).getLsbD i := by
 unfold slo
 rw [BitVec.getLsbD_or, BitVec.getLsbD_and, topW_bit i hi]
 have e : decide (i = 63) = false := decide_eq_false h
 rw [e, Bool.and_false, Bool.or_false]
theorem shi_bit {v m : W} {i : Nat} (hi : i < 64) (h : i ≠ 63) : (shi v m).getLsbD i = ((lo v m).getLsbD i || m.getLsbD i) := by
 unfold shi
 rw [BitVec.getLsbD_or, BitVec.getLsbD_and, BitVec.getLsbD_not, topW_bit i hi]
 have e : decide (i = 63) = false := decide_eq_false h
 have d : decide (i < 64) = true := decide_eq_true hi
 rw [e, d]
 cases (lo v m).getLsbD i <;> cases m.getLsbD i <;> rfl
/-- Two numbers whose tops tell, or whose bits do. -/
theorem sle_of {a x : W} (h : (a.getLsbD 63 = true ∧ x.getLsbD 63 = false) ∨ (a.getLsbD 63 = x.getLsbD 63 ∧ U a ≤ U x)) : wrap64 (U a) ≤ wrap64 (U x) := by
 have ha := top63 a
 have hx := top63 x
 have r1 := U_lo x
 have r2 := U_hi x
 have r3 := U_lo a
 have r4 := U_hi a
 unfold wrap64
 rcases h with ⟨h1, h2⟩ | ⟨h1, h2⟩
 ·rw [h1] at ha
  rw [h2] at hx
  have ha := of_decide_eq_true ha.symm
  have hx := of_decide_eq_false hx.symm
  omega
 ·rw [ha, hx] at h1
  have h3 : (9223372036854775808 ≤ U a) ↔ (9223372036854775808 ≤ U x) := by simpa using h1
  omega
theorem slo_le {v m x : W} (h : Has v m x) : wrap64 (U (slo v m)) ≤ wrap64 (U x) := by
 have b := has_bit h (show 63 < 64 by decide)
 have l63 := lo_bit v m (show 63 < 64 by decide)
 have s63 := slo63 v m
 apply sle_of
 by_cases hc : x.getLsbD 63 = true ∨ m.getLsbD 63 = false
 ·right
  have e : (slo v m).getLsbD 63 = x.getLsbD 63 := by
   rw [s63, l63]
   rw [← b]
   rcases hc with hc | hc <;> rw [hc] <;> (first | (cases m.getLsbD 63 <;> rfl) | (cases x.getLsbD 63 <;> rfl))
  refine ⟨e, In.leU ?_⟩
  intro i hi
  by_cases hlt : i < 64
  ·by_cases h6 : i = 63
   ·subst h6; rw [← e]; exact hi
   ·rw [slo_bit hlt h6] at hi
    exact in_lo h i hi
  ·rw [ge64 _ hlt] at hi; exact absurd hi (by decide)
 ·left
  have h1 : x.getLsbD 63 = false := by
   cases hx : x.getLsbD 63
   ·rfl
   ·exact absurd (Or.inl hx) hc
  have h2 : m.getLsbD 63 = true := by
   cases hx : m.getLsbD 63
   ·exact absurd (Or.inr hx) hc
   ·rfl
  refine ⟨?_, h1⟩
  rw [s63, h2, Bool.or_true]
theorem shi_ge {v m x : W} (h : Has v m x) : wrap64 (U x) ≤ wrap64 (U (shi v m)) := by
 have b := has_bit h (show 63 < 64 by decide)
 have l63 := lo_bit v m (show 63 < 64 by decide)
 have s63 := shi63 v m
 apply sle_of
 by_cases hc : x.getLsbD 63 = false ∨ m.getLsbD 63 = false
 ·right
  have e : x.getLsbD 63 = (shi v m).getLsbD 63 := by
   rw [s63, l63]
   rw [← b]
   rcases hc with hc | hc <;> rw [hc] <;> (first | (cases m.getLsbD 63 <;> rfl) | (cases x.getLsbD 63 <;> rfl))
  refine ⟨e, In.leU ?_⟩
  intro i hi
  by_cases hlt : i < 64
  ·by_cases h6 : i = 63
   ·subst h6; rw [← e]; exact hi
   ·rw [shi_bit hlt h6]
    have := in_hi h i hi
    rw [hi_bit v m hlt] at this
    rw [lo_bit v m hlt]
    cases hm : m.getLsbD i
    ·rw [hm] at this; simpa using this
    ·simp
  ·rw [ge64 _ hlt] at hi; exact absurd hi (by decide)
 ·left
  have h1 : x.getLsbD 63 = true := by
   cases hx : x.getLsbD 63
   ·exact absurd (Or.inl hx) hc
   ·rfl
  have h2 : m.getLsbD 63 = true := by
   cases hx : m.getLsbD 63
   ·exact absurd (Or.inr hx) hc
   ·rfl
  refine ⟨h1, ?_⟩
  rw [s63, l63, h2, Bool.not_true, Bool.and_false]
/-! ### Ranges -/
/-- The n lowest bits. -/
def lowW (n : Nat) : W := BitVec.ofNat 64 (2 ^ n - 1)
theorem lowW_bit (n i : Nat) (hi : i < 64) : (lowW n).getLsbD i = decide (i < n) := by
 unfold lowW
 rw [BitVec.getLsbD_ofNat, Nat.testBit_two_pow_sub_one]
 simp [hi]
theorem low_val (n : Nat) (hn : n ≤ 64) : words_Low.f n = some (U (lowW n)) := by
 have key : ∀ n : Fin 65, words_Low.f (n.val : Int) = some (U (lowW n.val)) := by decide +kernel
 exact key ⟨n, by omega⟩
theorem bitLen_facts (d : Nat) (h : d < 2 ^ 64) : d < 2 ^ Lib.bitLen d ∧ (∀ j, j < Lib.bitLen d → 2 ^ j ≤ d) ∧ Lib.bitLen d ≤ 64 := by
 by_cases h0 : d = 0
 ·subst h0
  have e : Lib.bitLen 0 = 0 := rfl
  rw [e]
  exact ⟨by decide, fun j hj => by omega, by omega⟩
 ·obtain ⟨a, b, c⟩ := Lib.bitLenAux_bounds 64 d h h0
  refine ⟨c, fun j hj => ?_, ?_⟩
  ·have hj' : j < Lib.bitLenAux 64 d := hj
   exact Nat.le_trans (Nat.pow_le_pow_right (by decide) (by omega)) b
  ·have : Lib.bitLenAux 64 d - 1 < 64 := by
    rcases Nat.lt_or_ge (Lib.bitLenAux 64 d - 1) 64 with h1 | h1
    ·exact h1
    ·have := Nat.pow_le_pow_right (show 0 < 2 by decide) h1
     omega
   show Lib.bitLenAux 64 d ≤ 64
   omega
theorem shr_same (a b : W) (j : Nat) : (a >>> j = b >>> j) ↔ (a ^^^ b).toNat < 2 ^ j := by
 constructor
 ·intro h
  have e : (a ^^^ b) >>> j = 0#64 := by
   apply BitVec.eq_of_getLsbD_eq
   intro i hi
   have := congrArg (fun x => BitVec.getLsbD x i) h
   simp only [BitVec.getLsbD_ushiftRight] at this
   rw [BitVec.getLsbD_ushiftRight, BitVec.getLsbD_xor, this]
   simp
  have e2 := congrArg BitVec.toNat e
  rw [BitVec.toNat_ushiftRight, Nat.shiftRight_eq_div_pow] at e2
  have e3 : (a ^^^ b).toNat / 2 ^ j = 0 := by simpa using e2
  exact (Nat.div_eq_zero_iff_lt (Nat.two_pow_pos j)).1 e3
 ·intro h
  apply BitVec.eq_of_getLsbD_eq
  intro i hi
  rw [BitVec.getLsbD_ushiftRight, BitVec.getLsbD_ushiftRight]
  have e : (a ^^^ b).getLsbD (j + i) = false := by
   rw [← BitVec.testBit_toNat]
   exact Nat.testBit_lt_two_pow (Nat.lt_of_lt_of_le h (Nat.pow_le_pow_right (by decide) (by omega)))
  rw [BitVec.getLsbD_xor] at e
  revert e
  cases a.getLsbD (j + i) <;> cases b.getLsbD (j + i) <;> simp
theorem U_pow (j : Nat) (hj : j < 64) : ((2 : Int) ^ j) = U (1#64 <<< j) := by
 unfold U
 rw [BitVec.toNat_shiftLeft, Nat.shiftLeft_eq]
 have : 2 ^ j < 2 ^ 64 := Nat.pow_lt_pow_right (by decide) hj
 have e : (1#64).toNat * 2 ^ j % 2 ^ 64 = 2 ^ j := by
  show 1 * 2 ^ j % 2 ^ 64 = 2 ^ j
  rw [Nat.one_mul, Nat.mod_eq_of_lt this]
 rw [e]
 simp
theorem U_quot (x : W) (j : Nat) (hj : j < 64) : IntKind.u64.wrap (Int.tdiv (U x) (2 ^ j)) = U (x >>> j) := by
 rw [Int.tdiv_eq_ediv_of_nonneg (U_lo x)]
 have h := U_shr x j (by omega) (by omega)
 unfold shr at h
 have e : min (j : Int).toNat IntKind.u64.bits = j := by
  have : IntKind.u64.bits = 64 := rfl
  rw [this]; omega
 rw [e, Int.toNat_natCast] at h
 rw [h, U_wrap]
theorem U_back (x : W) (j : Nat) (hj : j < 64) : IntKind.u64.wrap (U (x >>> j) * 2 ^ j) = U (x &&& ~~~lowW j) := by
 have h := U_shl (x >>> j) j (by omega) (by omega)
 unfold shl at h
 have e : min (j : Int).toNat IntKind.u64.bits = j := by
  have : IntKind.u64.bits = 64 := rfl
  rw [this]; omega
 rw [e, Int.toNat_natCast] at h
 rw [h, U_inj]
 apply BitVec.eq_of_getLsbD_eq
 intro i hi
 rw [BitVec.getLsbD_shiftLeft, BitVec.getLsbD_ushiftRight, BitVec.getLsbD_and, BitVec.getLsbD_not, lowW_bit _ _ hi]
 by_cases hij : i < j
 ·simp [hij]
 ·simp [hij, hi, show j + (i - j) = i by omega]
theorem lowW_val (j : Nat) (hj : j ≤ 64) : U (lowW j) = 2 ^ j - 1 := by
 unfold U lowW
 rw [BitVec.toNat_ofNat]
 have h1 : 2 ^ j ≤ 2 ^ 64 := Nat.pow_le_pow_right (by decide) hj
 have h2 := Nat.two_pow_pos j
 rw [Nat.mod_eq_of_lt (by omega)]
 have : ((2 ^ j : Nat) : Int) = (2 : Int) ^ j := by simp
 omega
/-- A range's pattern, both ways. -/
def rangeV (a b : W) : W := if b < a then 0#64 else a &&& ~~~lowW (Lib.bitLen (a ^^^ b).toNat)
def rangeM (a b : W) : W := if b < a then BitVec.allOnes 64 else lowW (Lib.bitLen (a ^^^ b).toNat)
theorem range_prog (a b : W) : tnum_Range.f (U a) (U b) = some (U (rangeV a b), U (rangeM a b)) := by
 unfold tnum_Range.f rangeV rangeM
 by_cases h : b < a
 ·rw [if_pos (U_lt.2 h), if_pos h, if_pos h]; rfl
 ·rw [if_neg (by rw [U_lt]; exact h), if_neg h, if_neg h, U_xor]
  have hl := bitLen_facts (a ^^^ b).toNat (a ^^^ b).isLt
  have e : bits_Len64.f (U (a ^^^ b)) = some ((Lib.bitLen (a ^^^ b).toNat : Nat) : Int) := by
   unfold bits_Len64.f
   rw [if_pos ⟨U_lo _, by have := U_hi (a ^^^ b); omega⟩]
   rfl
  rw [e]
  simp only [Option.bind_some]
  rw [low_val _ hl.2.2]
  simp only [Option.bind_some, t_right]
  rfl
/-! ### What two patterns have in common -/
/-- May bit i be 0, may it be 1? -/
def mz (v m : W) (i : Nat) : Bool := m.getLsbD i || !v.getLsbD i
def mo (v m : W) (i : Nat) : Bool := m.getLsbD i || v.getLsbD i
def clash (va ma vb mb : W) (i : Nat) : Bool := !(mz va ma i && mz vb mb i) && !(mo va ma i && mo vb mb i)
/-- What both have in common: the pattern. -/
def meetV (va ma vb mb : W) : W := lo (lo va ma ||| lo vb mb) (ma &&& mb)
def meets (va ma vb mb : W) : Prop := (lo va ma ^^^ lo vb mb) &&& ~~~(ma ||| mb) = 0#64
theorem meets_iff (va ma vb mb : W) : meets va ma vb mb ↔ ∀ j, j < 64 → clash va ma vb mb j = false := by
 constructor
 ·intro h j hj
  have := congrArg (fun b => BitVec.getLsbD b j) h
  simp only [BitVec.getLsbD_and, BitVec.getLsbD_xor, BitVec.getLsbD_not, BitVec.getLsbD_or, lo_bit _ _ hj, hj, decide_true, Bool.true_and, BitVec.getLsbD_zero] at this
  unfold clash mz mo
  revert this
  cases va.getLsbD j <;> cases ma.getLsbD j <;> cases vb.getLsbD j <;> cases mb.getLsbD j <;> simp
 ·intro h
  apply BitVec.eq_of_getLsbD_eq
  intro j hj
  have := h j hj
  simp only [BitVec.getLsbD_and, BitVec.getLsbD_xor, BitVec.getLsbD_not, BitVec.getLsbD_or, lo_bit _ _ hj, hj, decide_true, Bool.true_and, BitVec.getLsbD_zero]
  unfold clash mz mo at this
  revert this
  cases va.getLsbD j <;> cases ma.getLsbD j <;> cases vb.getLsbD j <;> cases mb.getLsbD j <;> simp
theorem meet_prog_yes {va ma vb mb : W} (h : meets va ma vb mb) : tnum_Meet.f (U va) (U ma) (U vb) (U mb) = some (U (meetV va ma vb mb), U (ma &&& mb), true) := by
 unfold tnum_Meet.f
 simp only [t_right, Option.bind_some, U_xor, U_or, U_andNot, U_and]
 have e : U ((lo va ma ^^^ lo vb mb) &&& ~~~(ma ||| mb)) = 0 := by rw [U_zero, U_inj]; exact h
 rw [if_pos e]
 rfl
theorem meet_prog_no {va ma vb mb : W} (h : ¬ meets va ma vb mb) : tnum_Meet.f (U va) (U ma) (U vb) (U mb) = some (0, 18446744073709551615, false) := by
 unfold tnum_Meet.f
 simp only [t_right, Option.bind_some, U_xor, U_or, U_andNot, U_and]
 have e : ¬ U ((lo va ma ^^^ lo vb mb) &&& ~~~(ma ||| mb)) = 0 := by rw [U_zero, U_inj]; exact h
 rw [if_neg e]
 rfl
theorem meet_has {va ma vb mb : W} (h : meets va ma vb mb) (x : W) : Has (meetV va ma vb mb) (ma &&& mb) x ↔ Has va ma x ∧ Has vb mb x := by
 have hc := (meets_iff _ _ _ _).1 h
 constructor
 ·intro hx
  refine ⟨has_of fun j hj => ?_, has_of fun j hj => ?_⟩ <;>
  ·have a1 := has_bit hx hj
   have a2 := hc j hj
   unfold meetV at a1
   unfold clash mz mo at a2
   rw [lo_bit _ _ hj, BitVec.getLsbD_or, BitVec.getLsbD_and, lo_bit _ _ hj, lo_bit _ _ hj] at a1
   revert a1 a2
   cases x.getLsbD j <;> cases va.getLsbD j <;> cases ma.getLsbD j <;> cases vb.getLsbD j <;> cases mb.getLsbD j <;> simp
 ·rintro ⟨h1, h2⟩
  refine has_of fun j hj => ?_
  have a1 := has_bit h1 hj
  have a2 := has_bit h2 hj
  unfold meetV
  rw [lo_bit _ _ hj, BitVec.getLsbD_or, BitVec.getLsbD_and, lo_bit _ _ hj, lo_bit _ _ hj]
  revert a1 a2
  cases x.getLsbD j <;> cases va.getLsbD j <;> cases ma.getLsbD j <;> cases vb.getLsbD j <;> cases mb.getLsbD j <;> simp
theorem meets_of_has {va ma vb mb x : W} (h1 : Has va ma x) (h2 : Has vb mb x) : meets va ma vb mb := by
 rw [meets_iff]
 intro j hj
 have a1 := has_bit h1 hj
 have a2 := has_bit h2 hj
 unfold clash mz mo
 revert a1 a2
 cases x.getLsbD j <;> cases va.getLsbD j <;> cases ma.getLsbD j <;> cases vb.getLsbD j <;> cases mb.getLsbD j <;> simp
/-! ### A round of refining: no number is lost, and none comes -/
theorem U_out (z : Int) (h0 : 0 ≤ z) (h1 : z < 18446744073709551616) : ∃ x : W, z = U x := U_of h0 h1
theorem range_has {a b x : W} (h1 : U a ≤ U x) (h2 : U x ≤ U b) : Has (rangeV a b) (rangeM a b) x := by
 unfold U at h1 h2
 have hab : ¬ b < a := by rw [BitVec.lt_def]; omega
 unfold rangeV rangeM
 rw [if_neg hab, if_neg hab]
 have hf := bitLen_facts (a ^^^ b).toNat (a ^^^ b).isLt
 generalize Lib.bitLen (a ^^^ b).toNat = j at hf
 have hs : a >>> j = b >>> j := (shr_same a b j).2 hf.1
 have hx : a >>> j = x >>> j := by
  apply BitVec.eq_of_toNat_eq
  have hs' := congrArg BitVec.toNat hs
  rw [BitVec.toNat_ushiftRight, BitVec.toNat_ushiftRight, Nat.shiftRight_eq_div_pow, Nat.shiftRight_eq_div_pow] at hs' ⊢
  have m1 : a.toNat / 2 ^ j ≤ x.toNat / 2 ^ j := Nat.div_le_div_right (by omega)
  have m2 : x.toNat / 2 ^ j ≤ b.toNat / 2 ^ j := Nat.div_le_div_right (by omega)
  omega
 apply has_of
 intro i hi
 by_cases hij : i < j
 ·have d : decide (i < j) = true := decide_eq_true hij
  simp only [BitVec.getLsbD_and, BitVec.getLsbD_not, lowW_bit j i hi, d, hi, decide_true]
  simp
 ·have e := congrArg (fun z => BitVec.getLsbD z (i - j)) hx
  simp only [BitVec.getLsbD_ushiftRight] at e
  rw [show j + (i - j) = i by omega] at e
  simp only [BitVec.getLsbD_and, BitVec.getLsbD_not, lowW_bit j i hi, hij, hi, e, decide_true, decide_false]
  simp
theorem mx_le (a b c : Int) : mx a b ≤ c ↔ a ≤ c ∧ b ≤ c := by unfold mx; split <;> omega
theorem le_mn (a b c : Int) : c ≤ mn a b ↔ c ≤ a ∧ c ≤ b := by unfold mn; split <;> omega
theorem mx_rg {a b l h : Int} (h1 : l ≤ a ∧ a < h) (h2 : l ≤ b ∧ b < h) : l ≤ mx a b ∧ mx a b < h := by unfold mx; split <;> omega
theorem mn_rg {a b l h : Int} (h1 : l ≤ a ∧ a < h) (h2 : l ≤ b ∧ b < h) : l ≤ mn a b ∧ mn a b < h := by unfold mn; split <;> omega
theorem U_rg (x : W) : 0 ≤ U x ∧ U x < 18446744073709551616 := ⟨U_lo x, U_hi x⟩
theorem wrap64_rg (z : Int) : -9223372036854775808 ≤ wrap64 z ∧ wrap64 z < 9223372036854775808 := by unfold wrap64; omega
theorem wrapu_rg (z : Int) : 0 ≤ IntKind.u64.wrap z ∧ IntKind.u64.wrap z < 18446744073709551616 := by rw [IntKind.wrap_u64]; omega
theorem top_num (a b : Int) (ha : 0 ≤ a ∧ a < 18446744073709551616) (hb : 0 ≤ b ∧ b < 18446744073709551616) : ((Go.bits .and .u64 a 9223372036854775808 == Go.bits .and .u64 b 9223372036854775808) = true) ↔ (9223372036854775808 ≤ a ↔ 9223372036854775808 ≤ b) := by
 obtain ⟨x, rfl⟩ := U_out a ha.1 ha.2
 obtain ⟨y, rfl⟩ := U_out b hb.1 hb.2
 rw [topW_U, U_and, U_and, top_and, top63, top63, ← topW_U]
 constructor
 ·intro h; simpa using h
 ·intro h; simpa using h
theorem rB_rg {A2 A3 A4 A5 : Int} (h : RG A2 A3 A4 A5) : RG A2 A3 (num_rB4 A2 A3 A4) (num_rB5 A2 A3 A5) := by
 obtain ⟨h1, h2, h3, h4, h5, h6, h7, h8⟩ := h
 have e1 : -9223372036854775808 ≤ num_rB4 A2 A3 A4 ∧ num_rB4 A2 A3 A4 < 9223372036854775808 := by
  unfold num_rB4; split
  ·exact mx_rg ⟨h5, h6⟩ (wrap64_rg _)
  ·exact ⟨h5, h6⟩
 have e2 : -9223372036854775808 ≤ num_rB5 A2 A3 A5 ∧ num_rB5 A2 A3 A5 < 9223372036854775808 := by
  unfold num_rB5; split
  ·exact mn_rg ⟨h7, h8⟩ (wrap64_rg _)
  ·exact ⟨h7, h8⟩
 exact ⟨h1, h2, h3, h4, e1.1, e1.2, e2.1, e2.2⟩
theorem rB_iff {v m x : W} {A2 A3 A4 A5 : Int} (h : RG A2 A3 A4 A5) : NH v m A2 A3 (num_rB4 A2 A3 A4) (num_rB5 A2 A3 A5) x ↔ NH v m A2 A3 A4 A5 x := by
 obtain ⟨h1, h2, h3, h4, h5, h6, h7, h8⟩ := h
 have ht := top_num A2 A3 ⟨h1, h2⟩ ⟨h3, h4⟩
 have r1 := U_lo x
 have r2 := U_hi x
 unfold NH num_rB4 num_rB5
 by_cases c : (Go.bits .and .u64 A2 9223372036854775808 == Go.bits .and .u64 A3 9223372036854775808) = true
 ·rw [if_pos c, if_pos c, mx_le, le_mn]
  have c' := ht.1 c
  have key : A2 ≤ U x → U x ≤ A3 → wrap64 A2 ≤ wrap64 (U x) ∧ wrap64 (U x) ≤ wrap64 A3 := by
   intro k1 k2
   unfold wrap64
   omega
  constructor
  ·rintro ⟨k0, k1, k2, k3, k4⟩; exact ⟨k0, k1, k2, k3.1, k4.1⟩
  ·rintro ⟨k0, k1, k2, k3, k4⟩; exact ⟨k0, k1, k2, ⟨k3, (key k1 k2).1⟩, ⟨k4, (key k1 k2).2⟩⟩
 ·rw [if_neg c, if_neg c]
theorem rC_rg {A2 A3 A4 A5 : Int} (h : RG A2 A3 A4 A5) : RG (num_rC2 A2 A4 A5) (num_rC3 A3 A4 A5) A4 A5 := by
 obtain ⟨h1, h2, h3, h4, h5, h6, h7, h8⟩ := h
 have e1 : 0 ≤ num_rC2 A2 A4 A5 ∧ num_rC2 A2 A4 A5 < 18446744073709551616 := by
  unfold num_rC2; split
  ·exact mx_rg ⟨h1, h2⟩ (wrapu_rg _)
  ·exact ⟨h1, h2⟩
 have e2 : 0 ≤ num_rC3 A3 A4 A5 ∧ num_rC3 A3 A4 A5 < 18446744073709551616 := by
  unfold num_rC3; split
  ·exact mn_rg ⟨h3, h4⟩ (wrapu_rg _)
  ·exact ⟨h3, h4⟩
 exact ⟨e1.1, e1.2, e2.1, e2.2, h5, h6, h7, h8⟩
theorem rC_iff {v m x : W} {A2 A3 A4 A5 : Int} (h : RG A2 A3 A4 A5) : NH v m (num_rC2 A2 A4 A5) (num_rC3 A3 A4 A5) A4 A5 x ↔ NH v m A2 A3 A4 A5 x := by
 obtain ⟨h1, h2, h3, h4, h5, h6, h7, h8⟩ := h
 have r1 := U_lo x
 have r2 := U_hi x
 unfold NH num_rC2 num_rC3
 by_cases c : (decide (A4 < 0) == decide (A5 < 0)) = true
 ·rw [if_pos c, if_pos c, mx_le, le_mn]
  have c' : (A4 < 0 ↔ A5 < 0) := by simpa using c
  have key : A4 ≤ wrap64 (U x) → wrap64 (U x) ≤ A5 → IntKind.u64.wrap A4 ≤ U x ∧ U x ≤ IntKind.u64.wrap A5 := by
   intro k1 k2
   rw [IntKind.wrap_u64, IntKind.wrap_u64]
   unfold wrap64 at k1 k2
   omega
  constructor
  ·rintro ⟨k0, k1, k2, k3, k4⟩; exact ⟨k0, k1.1, k2.1, k3, k4⟩
  ·rintro ⟨k0, k1, k2, k3, k4⟩; exact ⟨k0, ⟨k1, (key k3 k4).1⟩, ⟨k2, (key k3 k4).2⟩, k3, k4⟩
 ·rw [if_neg c, if_neg c]
/-- What is told at the end of a round, or of refining: all that was had is had. -/
structure Told (v m : W) (a2 a3 a4 a5 : Int) (ok : Bool) (v' m' : W) (c2 c3 c4 c5 : Int) : Prop where
 yes : ok = true → RG c2 c3 c4 c5 ∧ ∀ x, NH v' m' c2 c3 c4 c5 x ↔ NH v m a2 a3 a4 a5 x
 no : ok = false → ∀ x, ¬ NH v m a2 a3 a4 a5 x
theorem rEnd_told (v m : W) {A2 A3 A4 A5 : Int} (h : RG A2 A3 A4 A5) : ∃ (ok : Bool) (v' m' : W) (c2 c3 c4 c5 : Int), num_rEnd (U v) (U m) A2 A3 A4 A5 = some (ok, U v', U m', c2, c3, c4, c5) ∧ Told v m A2 A3 A4 A5 ok v' m' c2 c3 c4 c5 := by
 have hr := h
 obtain ⟨h1, h2, h3, h4, h5, h6, h7, h8⟩ := h
 unfold num_rEnd
 by_cases c : A3 < A2
 ·exact ⟨false, v, m, A2, A3, A4, A5, if_pos c, fun e => absurd e (by decide), fun _ x hx => by have := hx.2.1; have := hx.2.2.1; omega⟩
 ·rw [if_neg c]
  by_cases d : A5 < A4
  ·exact ⟨false, v, m, A2, A3, A4, A5, if_pos d, fun e => absurd e (by decide), fun _ x hx => by have := hx.2.2.2.1; have := hx.2.2.2.2; omega⟩
  ·rw [if_neg d]
   obtain ⟨a, rfl⟩ := U_out A2 h1 h2
   obtain ⟨b, rfl⟩ := U_out A3 h3 h4
   rw [range_prog, Option.bind_some]
   by_cases hm : meets v m (rangeV a b) (rangeM a b)
   ·rw [meet_prog_yes hm, Option.bind_some]
    refine ⟨true, _, _, _, _, _, _, rfl, fun _ => ⟨hr, fun x => ?_⟩, fun e => absurd e (by decide)⟩
    constructor
    ·rintro ⟨k0, k1⟩; exact ⟨((meet_has hm x).1 k0).1, k1⟩
    ·rintro ⟨k0, k1, k2, k3⟩; exact ⟨(meet_has hm x).2 ⟨k0, range_has k1 k2⟩, k1, k2, k3⟩
   ·rw [meet_prog_no hm, Option.bind_some]
    refine ⟨false, 0#64, BitVec.allOnes 64, U a, U b, A4, A5, rfl, fun e => absurd e (by decide), fun _ x hx => ?_⟩
    exact hm (meets_of_has hx.1 (range_has hx.2.1 hx.2.2.1))
theorem round_told (v m : W) {a2 a3 a4 a5 : Int} (h : RG a2 a3 a4 a5) : ∃ (ok : Bool) (v' m' : W) (c2 c3 c4 c5 : Int), num_known_round.f (U v) (U m) a2 a3 a4 a5 = some (ok, U v', U m', c2, c3, c4, c5) ∧ Told v m a2 a3 a4 a5 ok v' m' c2 c3 c4 c5 := by
 unfold num_known_round.f num_rMid
 rw [topW_U]
 simp only [U_andNot, U_and, U_or]
 simp only [show v &&& ~~~m = lo v m from rfl]
 simp only [show lo v m ||| m &&& topW = slo v m from rfl, show lo v m ||| m &&& ~~~topW = shi v m from rfl, show lo v m ||| m = hi v m from rfl]
 obtain ⟨h1, h2, h3, h4, h5, h6, h7, h8⟩ := h
 have g2 := mx_rg ⟨h1, h2⟩ (U_rg (lo v m))
 have g3 := mn_rg ⟨h3, h4⟩ (U_rg (hi v m))
 have g4 := mx_rg ⟨h5, h6⟩ (wrap64_rg (U (slo v m)))
 have g5 := mn_rg ⟨h7, h8⟩ (wrap64_rg (U (shi v m)))
 have hA : ∀ x, NH v m (mx a2 (U (lo v m))) (mn a3 (U (hi v m))) (mx a4 (wrap64 (U (slo v m)))) (mn a5 (wrap64 (U (shi v m)))) x ↔ NH v m a2 a3 a4 a5 x := by
  intro x
  unfold NH
  rw [mx_le, le_mn, mx_le, le_mn]
  constructor
  ·rintro ⟨k0, k1, k2, k3, k4⟩; exact ⟨k0, k1.1, k2.1, k3.1, k4.1⟩
  ·rintro ⟨k0, k1, k2, k3, k4⟩; exact ⟨k0, ⟨k1, In.leU (in_lo k0)⟩, ⟨k2, In.leU (in_hi k0)⟩, ⟨k3, slo_le k0⟩, ⟨k4, shi_ge k0⟩⟩
 have gA : RG _ _ _ _ := ⟨g2.1, g2.2, g3.1, g3.2, g4.1, g4.2, g5.1, g5.2⟩
 revert hA gA
 clear g2 g3 g4 g5
 generalize mx a2 (U (lo v m)) = A2
 generalize mn a3 (U (hi v m)) = A3
 generalize mx a4 (wrap64 (U (slo v m))) = A4
 generalize mn a5 (wrap64 (U (shi v m))) = A5
 intro hA gA
 have gB := rB_rg gA
 have gC := rC_rg gB
 obtain ⟨ok, v', m', c2, c3, c4, c5, e, t⟩ := rEnd_told v m gC
 refine ⟨ok, v', m', c2, c3, c4, c5, e, fun o => ⟨(t.yes o).1, fun x => ?_⟩, fun o x hx => ?_⟩
 ·rw [(t.yes o).2 x, rC_iff gB, rB_iff gA, hA x]
 ·exact t.no o x ((rC_iff gB).2 ((rB_iff gA).2 ((hA x).2 hx)))
theorem none_val : num_none = some (U 0#64, U (BitVec.allOnes 64), 0, 18446744073709551615, -9223372036854775808, 9223372036854775807, false) := rfl
theorem all_has (x : W) : NH 0#64 (BitVec.allOnes 64) 0 18446744073709551615 (-9223372036854775808) 9223372036854775807 x := by
 have r1 := U_lo x
 have r2 := U_hi x
 refine ⟨has_of fun i hi => ?_, by omega, by omega, (wrap64_rg _).1, by have := (wrap64_rg (U x)).2; omega⟩
 rw [BitVec.getLsbD_allOnes, decide_eq_true hi]
 simp
theorem refine_told (v m : W) {a2 a3 a4 a5 : Int} (h : RG a2 a3 a4 a5) : ∃ (ok : Bool) (v' m' : W) (c2 c3 c4 c5 : Int), num_Refine.f (U v) (U m) a2 a3 a4 a5 = some (U v', U m', c2, c3, c4, c5, ok) ∧ Told v m a2 a3 a4 a5 ok v' m' c2 c3 c4 c5 ∧ (ok = false → ∀ x, NH v' m' c2 c3 c4 c5 x) := by
 unfold num_Refine.f
 obtain ⟨ok, v1, m1, b2, b3, b4, b5, e, t⟩ := round_told v m h
 rw [num_Refine.l0, if_pos (by decide), e, Option.bind_some]
 cases ok with
 | false =>
  rw [if_neg Bool.false_ne_true, none_val]
  exact ⟨false, _, _, _, _, _, _, rfl, ⟨fun e => absurd e (by decide), fun _ => t.no rfl⟩, fun _ => all_has⟩
 | true =>
  rw [if_pos rfl]
  obtain ⟨ok2, v2, m2, d2, d3, d4, d5, e2, t2⟩ := round_told v1 m1 (t.yes rfl).1
  show ∃ _, _
  rw [show wrap64 (0 + 1) = 1 by unfold wrap64; omega, num_Refine.l0, if_pos (by decide)]
  simp only []
  rw [e2, Option.bind_some]
  cases ok2 with
  | false =>
   rw [if_neg Bool.false_ne_true, none_val]
   refine ⟨false, _, _, _, _, _, _, rfl, ⟨fun e => absurd e (by decide), fun _ x hx => ?_⟩, fun _ => all_has⟩
   exact t2.no rfl x (((t.yes rfl).2 x).2 hx)
  | true =>
   rw [if_pos rfl, show wrap64 (1 + 1) = 2 by unfold wrap64; omega, num_Refine.l0, if_neg (by decide)]
   refine ⟨true, _, _, _, _, _, _, rfl, ⟨fun _ => ⟨(t2.yes rfl).1, fun x => ?_⟩, fun e => absurd e (by decide)⟩, fun e => absurd e (by decide)⟩
   rw [(t2.yes rfl).2 x, (t.yes rfl).2 x]
/-- Which opcodes are operations. -/
theorem doV_is (op : Int) (wide : Bool) (x y : Int) : (doV op wide x y).2 = xfIs op := by
 unfold doV xfIs shV
 by_cases h6 : op = 96
 ·subst h6; rfl
 by_cases h7 : op = 112
 ·subst h7; rfl
 by_cases h12 : op = 192
 ·subst h12; rfl
 rw [if_neg h6, if_neg h7, if_neg h12, if_neg Bool.false_ne_true]
 unfold opV
 by_cases h0 : op = 0
 ·subst h0; rfl
 by_cases h1 : op = 16
 ·subst h1; rfl
 by_cases h2 : op = 32
 ·subst h2; rfl
 by_cases h3 : op = 48
 ·subst h3; rfl
 by_cases h4 : op = 64
 ·subst h4; rfl
 by_cases h5 : op = 80
 ·subst h5; rfl
 by_cases h8 : op = 128
 ·subst h8; rfl
 by_cases h9 : op = 144
 ·subst h9; rfl
 by_cases h10 : op = 160
 ·subst h10; rfl
 by_cases h11 : op = 176
 ·subst h11; rfl
 have f : ∀ c : Int, ¬ op = c → (op == c) = false := fun c h => beq_eq_false_iff_ne.2 h
 rw [if_neg h0, if_neg h1, if_neg h2, if_neg h3, if_neg h9, if_neg h4, if_neg h5, if_neg h10, if_neg h11, if_neg h8]
 simp [f _ h0, f _ h1, f _ h2, f _ h3, f _ h4, f _ h5, f _ h6, f _ h7, f _ h8, f _ h9, f _ h10, f _ h11, f _ h12]
/-! ### What a row has, and what it gives -/
def XOK (tu : Int) (p : XfP) (x y : W) : Prop := ∃ (v m w n : W) (a2 a3 a4 a5 b2 b3 b4 b5 c : Int) (on : Bool), p = ⟨U v, U m, a2, a3, a4, a5, U w, U n, b2, b3, b4, b5, c, on, tu, U 0#64, U (BitVec.allOnes 64), 0, 18446744073709551615, -9223372036854775808, 9223372036854775807⟩ ∧
 RG a2 a3 a4 a5 ∧ RG b2 b3 b4 b5 ∧ NH v m a2 a3 a4 a5 x ∧ NH w n b2 b3 b4 b5 y ∧ (on = true → c = U y)
def NOK (q : XfP) (z : W) : Prop := ∃ v m : W, q.n0 = U v ∧ q.n1 = U m ∧ RG q.n2 q.n3 q.n4 q.n5 ∧ NH v m q.n2 q.n3 q.n4 q.n5 z
def Gives (M : XfP → Option XfP) (tu : Int) (R : W → W → W) : Prop := ∀ p x y, XOK tu p x y → ∃ q, M p = some q ∧ NOK q (R x y)
theorem rgAll : RG 0 18446744073709551615 (-9223372036854775808) 9223372036854775807 := ⟨by decide, by decide, by decide, by decide, by decide, by decide, by decide, by decide⟩
theorem hasAll (z : W) : Has 0#64 (BitVec.allOnes 64) z := (all_has z).1
theorem u_all (z : W) : 0 ≤ U z ∧ U z ≤ 18446744073709551615 := by have := U_rg z; omega
theorem s_all (z : W) : -9223372036854775808 ≤ wrap64 (U z) ∧ wrap64 (U z) ≤ 9223372036854775807 := by have := wrap64_rg (U z); omega
/-! ### Sums and differences of bounds -/
theorem sgn_add (x y : W) : wrap64 (U (x + y)) = wrap64 (wrap64 (U x) + wrap64 (U y)) := by
 rw [← U_add]
 generalize U x = X
 generalize U y = Y
 rw [IntKind.wrap_u64]
 unfold wrap64
 omega
theorem sgn_sub (x y : W) : wrap64 (U (x - y)) = wrap64 (wrap64 (U x) - wrap64 (U y)) := by
 rw [← U_sub]
 generalize U x = X
 generalize U y = Y
 rw [IntKind.wrap_u64]
 unfold wrap64
 omega
theorem sum_ok {p q : Int} (hp : -9223372036854775808 ≤ p ∧ p < 9223372036854775808) (hq : -9223372036854775808 ≤ q ∧ q < 9223372036854775808) (h : (decide (wrap64 (p + q) < p) == decide (q < 0)) = true) : -9223372036854775808 ≤ p + q ∧ p + q < 9223372036854775808 := by
 have h2 : (wrap64 (p + q) < p) ↔ (q < 0) := by simpa using h
 unfold wrap64 at h2
 omega
theorem less_ok {p q : Int} (hp : -9223372036854775808 ≤ p ∧ p < 9223372036854775808) (hq : -9223372036854775808 ≤ q ∧ q < 9223372036854775808) (h : (decide (wrap64 (p - q) > p) == decide (q < 0)) = true) : -9223372036854775808 ≤ p - q ∧ p - q < 9223372036854775808 := by
 have h2 : (wrap64 (p - q) > p) ↔ (q < 0) := by simpa using h
 unfold wrap64 at h2
 omega
/-- Unsigned bounds of a sum. -/
theorem add_u {a2 a3 b2 b3 : Int} (x y : W) (ha : 0 ≤ a2 ∧ a2 < 18446744073709551616 ∧ 0 ≤ a3 ∧ a3 < 18446744073709551616) (hb : 0 ≤ b2 ∧ b2 < 18446744073709551616 ∧ 0 ≤ b3 ∧ b3 < 18446744073709551616) (hx : a2 ≤ U x ∧ U x ≤ a3) (hy : b2 ≤ U y ∧ U y ≤ b3) (h : IntKind.u64.wrap (a3 + b3) ≥ a3) :
  IntKind.u64.wrap (a2 + b2) ≤ U (x + y) ∧ U (x + y) ≤ IntKind.u64.wrap (a3 + b3) := by
 rw [← U_add]
 revert hx hy
 generalize U x = X
 generalize U y = Y
 intro hx hy
 rw [IntKind.wrap_u64] at *
 rw [IntKind.wrap_u64, IntKind.wrap_u64]
 omega
theorem sub_u {a2 a3 b2 b3 : Int} (x y : W) (ha : 0 ≤ a2 ∧ a2 < 18446744073709551616 ∧ 0 ≤ a3 ∧ a3 < 18446744073709551616) (hb : 0 ≤ b2 ∧ b2 < 18446744073709551616 ∧ 0 ≤ b3 ∧ b3 < 18446744073709551616) (hx : a2 ≤ U x ∧ U x ≤ a3) (hy : b2 ≤ U y ∧ U y ≤ b3) (h : b3 ≤ a2) :
  IntKind.u64.wrap (a2 - b3) ≤ U (x - y) ∧ U (x - y) ≤ IntKind.u64.wrap (a3 - b2) := by
 rw [← U_sub]
 revert hx hy
 generalize U x = X
 generalize U y = Y
 intro hx hy
 rw [IntKind.wrap_u64, IntKind.wrap_u64, IntKind.wrap_u64]
 omega
theorem add_s {a4 a5 b4 b5 : Int} (x y : W) (ha : -9223372036854775808 ≤ a4 ∧ a4 < 9223372036854775808 ∧ -9223372036854775808 ≤ a5 ∧ a5 < 9223372036854775808) (hb : -9223372036854775808 ≤ b4 ∧ b4 < 9223372036854775808 ∧ -9223372036854775808 ≤ b5 ∧ b5 < 9223372036854775808)
  (hx : a4 ≤ wrap64 (U x) ∧ wrap64 (U x) ≤ a5) (hy : b4 ≤ wrap64 (U y) ∧ wrap64 (U y) ≤ b5) (h1 : (decide (wrap64 (a4 + b4) < a4) == decide (b4 < 0)) = true) (h2 : (decide (wrap64 (a5 + b5) < a5) == decide (b5 < 0)) = true) :
  wrap64 (a4 + b4) ≤ wrap64 (U (x + y)) ∧ wrap64 (U (x + y)) ≤ wrap64 (a5 + b5) := by
 have k1 := sum_ok ⟨ha.1, ha.2.1⟩ ⟨hb.1, hb.2.1⟩ h1
 have k2 := sum_ok ⟨ha.2.2.1, ha.2.2.2⟩ ⟨hb.2.2.1, hb.2.2.2⟩ h2
 rw [sgn_add]
 clear h1 h2
 revert hx hy
 generalize wrap64 (U x) = X
 generalize wrap64 (U y) = Y
 intro hx hy
 rw [wrap64_id k1.1 k1.2, wrap64_id k2.1 k2.2, wrap64_id (a := X + Y) (by omega) (by omega)]
 omega
theorem sub_s {a4 a5 b4 b5 : Int} (x y : W) (ha : -9223372036854775808 ≤ a4 ∧ a4 < 9223372036854775808 ∧ -9223372036854775808 ≤ a5 ∧ a5 < 9223372036854775808) (hb : -9223372036854775808 ≤ b4 ∧ b4 < 9223372036854775808 ∧ -9223372036854775808 ≤ b5 ∧ b5 < 9223372036854775808)
  (hx : a4 ≤ wrap64 (U x) ∧ wrap64 (U x) ≤ a5) (hy : b4 ≤ wrap64 (U y) ∧ wrap64 (U y) ≤ b5) (h1 : (decide (wrap64 (a4 - b5) > a4) == decide (b5 < 0)) = true) (h2 : (decide (wrap64 (a5 - b4) > a5) == decide (b4 < 0)) = true) :
  wrap64 (a4 - b5) ≤ wrap64 (U (x - y)) ∧ wrap64 (U (x - y)) ≤ wrap64 (a5 - b4) := by
 have k1 := less_ok ⟨ha.1, ha.2.1⟩ ⟨hb.2.2.1, hb.2.2.2⟩ h1
 have k2 := less_ok ⟨ha.2.2.1, ha.2.2.2⟩ ⟨hb.1, hb.2.1⟩ h2
 rw [sgn_sub]
 clear h1 h2
 revert hx hy
 generalize wrap64 (U x) = X
 generalize wrap64 (U y) = Y
 intro hx hy
 rw [wrap64_id k1.1 k1.2, wrap64_id k2.1 k2.2, wrap64_id (a := X - Y) (by omega) (by omega)]
 omega
theorem ub {p : Bool} {lo hi z : Int} (h : p = true → lo ≤ z ∧ z ≤ hi) (hz : 0 ≤ z ∧ z ≤ 18446744073709551615) : (if p = true then lo else 0) ≤ z ∧ z ≤ (if p = true then hi else 18446744073709551615) := by
 cases p with
 | true => rw [if_pos rfl, if_pos rfl]; exact h rfl
 | false => rw [if_neg Bool.false_ne_true, if_neg Bool.false_ne_true]; exact hz
theorem sb {p : Bool} {lo hi z : Int} (h : p = true → lo ≤ z ∧ z ≤ hi) (hz : -9223372036854775808 ≤ z ∧ z ≤ 9223372036854775807) : (if p = true then lo else -9223372036854775808) ≤ z ∧ z ≤ (if p = true then hi else 9223372036854775807) := by
 cases p with
 | true => rw [if_pos rfl, if_pos rfl]; exact h rfl
 | false => rw [if_neg Bool.false_ne_true, if_neg Bool.false_ne_true]; exact hz
theorem ur {p : Bool} {lo hi : Int} (h1 : 0 ≤ lo ∧ lo < 18446744073709551616) (h2 : 0 ≤ hi ∧ hi < 18446744073709551616) : (0 ≤ (if p = true then lo else 0) ∧ (if p = true then lo else 0) < 18446744073709551616) ∧ 0 ≤ (if p = true then hi else 18446744073709551615) ∧ (if p = true then hi else 18446744073709551615) < 18446744073709551616 := by
 cases p with
 | true => exact ⟨h1, h2⟩
 | false => simp
theorem sr {p : Bool} {lo hi : Int} (h1 : -9223372036854775808 ≤ lo ∧ lo < 9223372036854775808) (h2 : -9223372036854775808 ≤ hi ∧ hi < 9223372036854775808) : (-9223372036854775808 ≤ (if p = true then lo else -9223372036854775808) ∧ (if p = true then lo else -9223372036854775808) < 9223372036854775808) ∧ -9223372036854775808 ≤ (if p = true then hi else 9223372036854775807) ∧ (if p = true then hi else 9223372036854775807) < 9223372036854775808 := by
 cases p with
 | true => exact ⟨h1, h2⟩
 | false => simp
/-- All that is told of a result, put together. -/
theorem nok {q : XfP} {z v m : W} (e0 : q.n0 = U v) (e1 : q.n1 = U m) (hv : Has v m z) (r : (0 ≤ q.n2 ∧ q.n2 < 18446744073709551616) ∧ 0 ≤ q.n3 ∧ q.n3 < 18446744073709551616) (s : (-9223372036854775808 ≤ q.n4 ∧ q.n4 < 9223372036854775808) ∧ -9223372036854775808 ≤ q.n5 ∧ q.n5 < 9223372036854775808)
  (b : q.n2 ≤ U z ∧ U z ≤ q.n3) (d : q.n4 ≤ wrap64 (U z) ∧ wrap64 (U z) ≤ q.n5) : NOK q z := ⟨v, m, e0, e1, ⟨r.1.1, r.1.2, r.2.1, r.2.2, s.1.1, s.1.2, s.2.1, s.2.2⟩, hv, b.1, b.2, d.1, d.2⟩
theorem sAllr : (-9223372036854775808 ≤ (-9223372036854775808 : Int) ∧ (-9223372036854775808 : Int) < 9223372036854775808) ∧ -9223372036854775808 ≤ (9223372036854775807 : Int) ∧ (9223372036854775807 : Int) < 9223372036854775808 := by decide
theorem uAllr : (0 ≤ (0 : Int) ∧ (0 : Int) < 18446744073709551616) ∧ 0 ≤ (18446744073709551615 : Int) ∧ (18446744073709551615 : Int) < 18446744073709551616 := by decide
theorem gives_add (tu : Int) : Gives xf_add tu (fun x y => x + y) := by
 rintro p x y ⟨v, m, w, n, a2, a3, a4, a5, b2, b3, b4, b5, c, on, rfl, ha, hb, hx, hy, _⟩
 obtain ⟨x0, x1, x2, x3, x4⟩ := hx
 obtain ⟨y0, y1, y2, y3, y4⟩ := hy
 obtain ⟨h1, h2, h3, h4, h5, h6, h7, h8⟩ := ha
 obtain ⟨g1, g2, g3, g4, g5, g6, g7, g8⟩ := hb
 unfold xf_add
 dsimp only
 rw [t_add]
 simp only [Option.bind_some, xfer_sum.f]
 exact ⟨_, rfl, nok rfl rfl (has_right (add_has x0 y0)) (ur (wrapu_rg _) (wrapu_rg _)) (sr (wrap64_rg _) (wrap64_rg _)) (ub (fun h => add_u x y ⟨h1, h2, h3, h4⟩ ⟨g1, g2, g3, g4⟩ ⟨x1, x2⟩ ⟨y1, y2⟩ (of_decide_eq_true h)) (u_all _))
  (sb (fun h => by rw [Bool.and_eq_true] at h; exact add_s x y ⟨h5, h6, h7, h8⟩ ⟨g5, g6, g7, g8⟩ ⟨x3, x4⟩ ⟨y3, y4⟩ h.1 h.2) (s_all _))⟩
theorem sub_core (tu : Int) {v m w n x y : W} {a2 a3 a4 a5 b2 b3 b4 b5 : Int} (c : Int) (on : Bool) (ha : RG a2 a3 a4 a5) (hb : RG b2 b3 b4 b5) (hx : NH v m a2 a3 a4 a5 x) (hy : NH w n b2 b3 b4 b5 y) :
  ∃ q, xf_sub ⟨U v, U m, a2, a3, a4, a5, U w, U n, b2, b3, b4, b5, c, on, tu, U 0#64, U (BitVec.allOnes 64), 0, 18446744073709551615, -9223372036854775808, 9223372036854775807⟩ = some q ∧ NOK q (x - y) := by
 obtain ⟨x0, x1, x2, x3, x4⟩ := hx
 obtain ⟨y0, y1, y2, y3, y4⟩ := hy
 obtain ⟨h1, h2, h3, h4, h5, h6, h7, h8⟩ := ha
 obtain ⟨g1, g2, g3, g4, g5, g6, g7, g8⟩ := hb
 unfold xf_sub
 dsimp only
 rw [t_sub]
 simp only [Option.bind_some, xfer_less.f]
 exact ⟨_, rfl, nok rfl rfl (has_right (sub_has x0 y0)) (ur (wrapu_rg _) (wrapu_rg _)) (sr (wrap64_rg _) (wrap64_rg _)) (ub (fun h => sub_u x y ⟨h1, h2, h3, h4⟩ ⟨g1, g2, g3, g4⟩ ⟨x1, x2⟩ ⟨y1, y2⟩ (of_decide_eq_true h)) (u_all _))
  (sb (fun h => by rw [Bool.and_eq_true] at h; exact sub_s x y ⟨h5, h6, h7, h8⟩ ⟨g5, g6, g7, g8⟩ ⟨x3, x4⟩ ⟨y3, y4⟩ h.1 h.2) (s_all _))⟩
theorem gives_sub (tu : Int) : Gives xf_sub tu (fun x y => x - y) := by
 rintro p x y ⟨v, m, w, n, a2, a3, a4, a5, b2, b3, b4, b5, c, on, rfl, ha, hb, hx, hy, _⟩
 exact sub_core tu c on ha hb hx hy
theorem U_mul (x y : W) : IntKind.u64.wrap (U x * U y) = U (x * y) := by
 rw [IntKind.wrap_u64]
 unfold U
 rw [BitVec.toNat_mul]
 simp
theorem gives_mul (tu : Int) : Gives xf_mul tu (fun x y => x * y) := by
 rintro p x y ⟨v, m, w, n, a2, a3, a4, a5, b2, b3, b4, b5, c, on, rfl, ha, hb, hx, hy, _⟩
 obtain ⟨x0, x1, x2, x3, x4⟩ := hx
 obtain ⟨y0, y1, y2, y3, y4⟩ := hy
 obtain ⟨h1, h2, h3, h4, h5, h6, h7, h8⟩ := ha
 obtain ⟨g1, g2, g3, g4, g5, g6, g7, g8⟩ := hb
 unfold xf_mul
 dsimp only
 cases hc : (decide (a3 ≤ 4294967295) && decide (b3 ≤ 4294967295)) with
 | false =>
  rw [if_neg Bool.false_ne_true]
  exact ⟨_, rfl, nok rfl rfl (hasAll _) uAllr sAllr (u_all _) (s_all _)⟩
 | true =>
  rw [if_pos rfl]
  rw [Bool.and_eq_true, decide_eq_true_eq, decide_eq_true_eq] at hc
  refine ⟨_, rfl, nok rfl rfl (hasAll _) ⟨wrapu_rg _, wrapu_rg _⟩ sAllr ?_ (s_all _)⟩
  show IntKind.u64.wrap (a2 * b2) ≤ U (x * y) ∧ U (x * y) ≤ IntKind.u64.wrap (a3 * b3)
  rw [← U_mul]
  have k0 : 0 ≤ a2 * b2 := Int.mul_nonneg h1 g1
  have k1 : a2 * b2 ≤ U x * U y := Int.mul_le_mul x1 y1 g1 (by omega)
  have k2 : U x * U y ≤ a3 * b3 := Int.mul_le_mul x2 y2 (by omega) h3
  have k3 : a3 * b3 ≤ 4294967295 * 4294967295 := Int.mul_le_mul hc.1 hc.2 g3 (by decide)
  revert k0 k1 k2 k3
  generalize a2 * b2 = P
  generalize U x * U y = Q
  generalize a3 * b3 = R
  intro k0 k1 k2 k3
  rw [wrap_u64_id k0 (by omega), wrap_u64_id (a := Q) (by omega) (by omega), wrap_u64_id (a := R) (by omega) (by omega)]
  exact ⟨k1, k2⟩
theorem z0 : 0 ≤ (0 : Int) ∧ (0 : Int) < 18446744073709551616 := by decide
theorem zM : 0 ≤ (18446744073709551615 : Int) ∧ (18446744073709551615 : Int) < 18446744073709551616 := by decide
theorem U_div (x y : W) : U (x / y) = U x / U y := by
 unfold U
 rw [BitVec.toNat_udiv]
 simp
theorem U_mod (x y : W) : U (x % y) = U x % U y := by
 unfold U
 rw [BitVec.toNat_umod]
 simp
theorem gives_div (tu : Int) : Gives xf_div tu (fun x y => x / y) := by
 rintro p x y ⟨v, m, w, n, a2, a3, a4, a5, b2, b3, b4, b5, c, on, rfl, ha, hb, hx, hy, hon⟩
 obtain ⟨x0, x1, x2, x3, x4⟩ := hx
 obtain ⟨h1, h2, h3, h4, h5, h6, h7, h8⟩ := ha
 have ry := U_rg y
 have rx := U_rg x
 unfold xf_div
 dsimp only
 cases hc : (on && decide (c > 0)) with
 | false =>
  rw [if_neg Bool.false_ne_true]
  refine ⟨_, rfl, nok rfl rfl (hasAll _) ⟨z0, h3, h4⟩ sAllr ?_ (s_all _)⟩
  show 0 ≤ U (x / y) ∧ U (x / y) ≤ a3
  refine ⟨U_lo _, ?_⟩
  rw [U_div]
  exact Int.le_trans (Int.ediv_le_self _ rx.1) x2
 | true =>
  rw [if_pos rfl]
  rw [Bool.and_eq_true, decide_eq_true_eq] at hc
  have hcy := hon hc.1
  have hpos := hc.2
  subst hcy
  refine ⟨_, rfl, nok rfl rfl (hasAll _) ⟨wrapu_rg _, wrapu_rg _⟩ sAllr ?_ (s_all _)⟩
  show IntKind.u64.wrap (Int.tdiv a2 (U y)) ≤ U (x / y) ∧ U (x / y) ≤ IntKind.u64.wrap (Int.tdiv a3 (U y))
  rw [Int.tdiv_eq_ediv_of_nonneg h1, Int.tdiv_eq_ediv_of_nonneg h3, U_div]
  have l1 := Int.ediv_le_self (U y) h1
  have l2 := Int.ediv_le_self (U y) h3
  have q1 := Int.ediv_nonneg h1 ry.1
  have q2 := Int.ediv_nonneg h3 ry.1
  rw [wrap_u64_id q1 (by omega), wrap_u64_id q2 (by omega)]
  exact ⟨Int.ediv_le_ediv hpos x1, Int.ediv_le_ediv hpos x2⟩
theorem mod_le_self (x y : W) : U (x % y) ≤ U x := by
 unfold U
 rw [BitVec.toNat_umod]
 have := Nat.mod_le x.toNat y.toNat
 omega
theorem gives_mod (tu : Int) : Gives xf_mod tu (fun x y => x % y) := by
 rintro p x y ⟨v, m, w, n, a2, a3, a4, a5, b2, b3, b4, b5, c, on, rfl, ha, hb, hx, hy, hon⟩
 obtain ⟨x0, x1, x2, x3, x4⟩ := hx
 obtain ⟨h1, h2, h3, h4, h5, h6, h7, h8⟩ := ha
 have ry := U_rg y
 have ml := mod_le_self x y
 unfold xf_mod
 dsimp only
 cases hc : (on && decide (c > 0)) with
 | false =>
  rw [if_neg Bool.false_ne_true]
  exact ⟨_, rfl, nok rfl rfl (hasAll _) ⟨z0, h3, h4⟩ sAllr ⟨U_lo _, Int.le_trans ml x2⟩ (s_all _)⟩
 | true =>
  rw [if_pos rfl]
  rw [Bool.and_eq_true, decide_eq_true_eq] at hc
  have hcy := hon hc.1
  have hpos := hc.2
  subst hcy
  have w1 : IntKind.u64.wrap (U y - 1) = U y - 1 := wrap_u64_id (by omega) (by omega)
  have rg := mn_rg (l := 0) (h := 18446744073709551616) ⟨h3, h4⟩ (show 0 ≤ U y - 1 ∧ U y - 1 < 18446744073709551616 by clear w1; omega)
  refine ⟨_, rfl, nok rfl rfl (hasAll _) ⟨z0, ?_⟩ sAllr ⟨U_lo _, ?_⟩ (s_all _)⟩
  ·show 0 ≤ mn a3 (IntKind.u64.wrap (U y - 1)) ∧ mn a3 (IntKind.u64.wrap (U y - 1)) < _
   rw [w1]; exact rg
  ·show U (x % y) ≤ mn a3 (IntKind.u64.wrap (U y - 1))
   rw [w1, le_mn]
   refine ⟨Int.le_trans ml x2, ?_⟩
   rw [U_mod]
   have := Int.emod_lt_of_pos (U x) hpos
   clear w1
   omega
theorem and_le (x y : W) : U (x &&& y) ≤ U x ∧ U (x &&& y) ≤ U y := by
 unfold U
 rw [BitVec.toNat_and]
 have h1 : x.toNat &&& y.toNat ≤ x.toNat := Nat.and_le_left
 have h2 : x.toNat &&& y.toNat ≤ y.toNat := Nat.and_le_right
 omega
theorem le_or (x y : W) : U x ≤ U (x ||| y) ∧ U y ≤ U (x ||| y) := by
 unfold U
 rw [BitVec.toNat_or]
 have h1 : x.toNat ≤ x.toNat ||| y.toNat := Nat.left_le_or
 have h2 : y.toNat ≤ x.toNat ||| y.toNat := Nat.right_le_or
 omega
theorem gives_and (tu : Int) : Gives xf_and tu (fun x y => x &&& y) := by
 rintro p x y ⟨v, m, w, n, a2, a3, a4, a5, b2, b3, b4, b5, c, on, rfl, ha, hb, hx, hy, hon⟩
 obtain ⟨x0, x1, x2, x3, x4⟩ := hx
 obtain ⟨y0, y1, y2, y3, y4⟩ := hy
 obtain ⟨h1, h2, h3, h4, h5, h6, h7, h8⟩ := ha
 obtain ⟨g1, g2, g3, g4, g5, g6, g7, g8⟩ := hb
 have l := and_le x y
 unfold xf_and
 dsimp only
 rw [t_and, Option.bind_some]
 exact ⟨_, rfl, nok rfl rfl (and_has x0 y0) ⟨z0, mn_rg ⟨h3, h4⟩ ⟨g3, g4⟩⟩ sAllr ⟨U_lo _, (le_mn _ _ _).2 ⟨Int.le_trans l.1 x2, Int.le_trans l.2 y2⟩⟩ (s_all _)⟩
theorem gives_or (tu : Int) : Gives xf_or tu (fun x y => x ||| y) := by
 rintro p x y ⟨v, m, w, n, a2, a3, a4, a5, b2, b3, b4, b5, c, on, rfl, ha, hb, hx, hy, hon⟩
 obtain ⟨x0, x1, x2, x3, x4⟩ := hx
 obtain ⟨y0, y1, y2, y3, y4⟩ := hy
 obtain ⟨h1, h2, h3, h4, h5, h6, h7, h8⟩ := ha
 obtain ⟨g1, g2, g3, g4, g5, g6, g7, g8⟩ := hb
 have l := le_or x y
 unfold xf_or
 dsimp only
 rw [t_or, Option.bind_some]
 exact ⟨_, rfl, nok rfl rfl (or_has x0 y0) ⟨mx_rg ⟨h1, h2⟩ ⟨g1, g2⟩, zM⟩ sAllr ⟨(mx_le _ _ _).2 ⟨Int.le_trans x1 l.1, Int.le_trans y1 l.2⟩, (u_all _).2⟩ (s_all _)⟩
theorem gives_xor (tu : Int) : Gives xf_xor tu (fun x y => x ^^^ y) := by
 rintro p x y ⟨v, m, w, n, a2, a3, a4, a5, b2, b3, b4, b5, c, on, rfl, ha, hb, hx, hy, hon⟩
 unfold xf_xor
 dsimp only
 rw [t_xor, Option.bind_some]
 exact ⟨_, rfl, nok rfl rfl (has_right (xor_has hx.1 hy.1)) uAllr sAllr (u_all _) (s_all _)⟩
theorem gives_mov (tu : Int) : Gives xf_mov tu (fun _ y => y) := by
 rintro p x y ⟨v, m, w, n, a2, a3, a4, a5, b2, b3, b4, b5, c, on, rfl, ha, hb, hx, hy, hon⟩
 exact ⟨_, rfl, w, n, rfl, rfl, hb, hy⟩
theorem s_zero : wrap64 (U 0#64) = 0 := by decide +kernel
theorem gives_neg (tu : Int) : Gives xf_neg tu (fun x _ => 0#64 - x) := by
 rintro p x y ⟨v, m, w, n, a2, a3, a4, a5, b2, b3, b4, b5, c, on, rfl, ha, hb, hx, hy, hon⟩
 unfold xf_neg
 dsimp only
 have e0 : num_Const.f 0 = some (U 0#64, U 0#64, 0, 0, 0, 0) := by kernel_rfl
 rw [e0, Option.bind_some]
 exact sub_core tu c on (⟨by decide, by decide, by decide, by decide, by decide, by decide, by decide, by decide⟩ : RG 0 0 0 0) ha (⟨rfl, by decide, by decide, Int.le_of_eq s_zero.symm, Int.le_of_eq s_zero⟩ : NH 0#64 0#64 0 0 0 0 0#64) hx
/-! ### Shifts -/
theorem k_of {y : W} {tu : Int} (ht : tu = 64 ∨ tu = 32) : ∃ k : W, Int.tmod (U y) tu = U k ∧ Int.tmod (U k) 64 = U k ∧ (U k).toNat = (U y % tu).toNat ∧ 0 ≤ U k ∧ U k < 64 := by
 have ry := U_rg y
 rw [Int.tmod_eq_emod_of_nonneg ry.1]
 have h0 : 0 ≤ U y % tu ∧ U y % tu < 64 := by rcases ht with rfl | rfl <;> omega
 obtain ⟨k, hk⟩ := U_of h0.1 (show U y % tu < 18446744073709551616 by omega)
 refine ⟨k, hk, ?_, by rw [hk], by omega, by omega⟩
 rw [Int.tmod_eq_emod_of_nonneg (U_lo k)]
 omega
theorem shl_mono {a : Int} {x : W} (k : Nat) (h0 : 0 ≤ a) (h : a ≤ U x) (hx : U x * 2 ^ k < 18446744073709551616) : IntKind.u64.wrap (a * 2 ^ k) ≤ IntKind.u64.wrap (U x * 2 ^ k) := by
 have p : (0 : Int) < 2 ^ k := Int.pow_pos (by decide)
 have k1 : a * 2 ^ k ≤ U x * 2 ^ k := Int.mul_le_mul_of_nonneg_right h (Int.le_of_lt p)
 have k0 : 0 ≤ a * 2 ^ k := Int.mul_nonneg h0 (Int.le_of_lt p)
 rw [wrap_u64_id k0 (by omega), wrap_u64_id (by omega) hx]
 exact k1
theorem shl_def (a k : Int) (h0 : 0 ≤ k) (h1 : k < 64) : shl .u64 a k = IntKind.u64.wrap (a * 2 ^ k.toNat) := by
 unfold shl
 have e : min k.toNat IntKind.u64.bits = k.toNat := by
  have : IntKind.u64.bits = 64 := rfl
  rw [this]; omega
 rw [e]
theorem shr_def (kd : IntKind) (hk : kd.bits = 64) (a k : Int) (h0 : 0 ≤ k) (h1 : k < 64) : shr kd a k = a / 2 ^ k.toNat := by
 unfold shr
 have e : min k.toNat kd.bits = k.toNat := by rw [hk]; omega
 rw [e]
theorem gives_lsh {tu : Int} (ht : tu = 64 ∨ tu = 32) : Gives xf_lsh tu (fun x y => x <<< (U y % tu).toNat) := by
 rintro p x y ⟨v, m, w, n, a2, a3, a4, a5, b2, b3, b4, b5, c, on, rfl, ha, hb, hx, hy, hon⟩
 obtain ⟨x0, x1, x2, x3, x4⟩ := hx
 obtain ⟨h1, h2, h3, h4, h5, h6, h7, h8⟩ := ha
 unfold xf_lsh
 dsimp only
 cases on with
 | false =>
  rw [if_neg Bool.false_ne_true]
  exact ⟨_, rfl, nok rfl rfl (hasAll _) uAllr sAllr (u_all _) (s_all _)⟩
 | true =>
  have hc := hon rfl
  subst hc
  obtain ⟨k, e1, e2, e3, k0, k1⟩ := k_of (y := y) ht
  rw [if_pos rfl, if_neg (by rcases ht with rfl | rfl <;> decide), e1, if_pos k0, t_lsh, Option.bind_some, e2, ← e3]
  have em : min (U k).toNat 64 = (U k).toNat := by omega
  rw [em, shl_def _ _ k0 k1, shl_def _ _ k0 k1]
  have hb_ := lsh_has x0 (U k).toNat
  cases ct : (IntKind.u64.wrap (a3 * 2 ^ (U k).toNat) / 2 ^ (U k).toNat == a3) with
  | false =>
   rw [if_neg Bool.false_ne_true]
   exact ⟨_, rfl, nok rfl rfl hb_ uAllr sAllr (u_all _) (s_all _)⟩
  | true =>
   rw [if_pos rfl]
   rw [beq_iff_eq] at ct
   have p : (0 : Int) < 2 ^ (U k).toNat := Int.pow_pos (by decide)
   have lt3 : a3 * 2 ^ (U k).toNat < 18446744073709551616 := by
    have w3 := wrapu_rg (a3 * 2 ^ (U k).toNat)
    have := Int.ediv_mul_le (IntKind.u64.wrap (a3 * 2 ^ (U k).toNat)) (Int.ne_of_gt p)
    rw [ct] at this
    omega
   have ex : U (x <<< (U k).toNat) = IntKind.u64.wrap (U x * 2 ^ (U k).toNat) := by
    rw [← shl_def _ _ k0 k1, U_shl x _ k0 k1]
   have kx : U x * 2 ^ (U k).toNat ≤ a3 * 2 ^ (U k).toNat := Int.mul_le_mul_of_nonneg_right x2 (Int.le_of_lt p)
   refine ⟨_, rfl, nok rfl rfl hb_ ⟨wrapu_rg _, wrapu_rg _⟩ sAllr ?_ (s_all _)⟩
   show IntKind.u64.wrap (a2 * 2 ^ (U k).toNat) ≤ U (x <<< (U k).toNat) ∧ U (x <<< (U k).toNat) ≤ IntKind.u64.wrap (a3 * 2 ^ (U k).toNat)
   rw [ex]
   refine ⟨shl_mono _ h1 x1 (by omega), ?_⟩
   have q0 : 0 ≤ U x * 2 ^ (U k).toNat := Int.mul_nonneg (U_lo x) (Int.le_of_lt p)
   rw [wrap_u64_id q0 (by omega), wrap_u64_id (by omega) lt3]
   exact kx
theorem gives_rsh {tu : Int} (ht : tu = 64 ∨ tu = 32) : Gives xf_rsh tu (fun x y => x >>> (U y % tu).toNat) := by
 rintro p x y ⟨v, m, w, n, a2, a3, a4, a5, b2, b3, b4, b5, c, on, rfl, ha, hb, hx, hy, hon⟩
 obtain ⟨x0, x1, x2, x3, x4⟩ := hx
 obtain ⟨h1, h2, h3, h4, h5, h6, h7, h8⟩ := ha
 obtain ⟨k, e1, e2, e3, k0, k1⟩ := k_of (y := y) ht
 have p : (0 : Int) < 2 ^ (U k).toNat := Int.pow_pos (by decide)
 have ex : U (x >>> (U k).toNat) = U x / 2 ^ (U k).toNat := by
  rw [← shr_def .u64 rfl _ _ k0 k1, U_shr x _ k0 k1]
 unfold xf_rsh
 dsimp only
 rw [← e3]
 cases on with
 | false =>
  rw [if_neg Bool.false_ne_true]
  refine ⟨_, rfl, nok rfl rfl (hasAll _) ⟨z0, h3, h4⟩ sAllr ⟨U_lo _, ?_⟩ (s_all _)⟩
  show U (x >>> (U k).toNat) ≤ a3
  rw [ex]
  exact Int.le_trans (Int.ediv_le_self _ (U_lo x)) x2
 | true =>
  have hc := hon rfl
  subst hc
  rw [if_pos rfl, if_neg (by rcases ht with rfl | rfl <;> decide), e1, if_pos k0, t_rsh, Option.bind_some, e2]
  rw [shr_def .u64 rfl _ _ k0 k1, shr_def .u64 rfl _ _ k0 k1]
  have l2 := Int.ediv_le_self (2 ^ (U k).toNat) h1
  have l3 := Int.ediv_le_self (2 ^ (U k).toNat) h3
  have n2 := Int.ediv_nonneg h1 (Int.le_of_lt p)
  have n3 := Int.ediv_nonneg h3 (Int.le_of_lt p)
  refine ⟨_, rfl, nok rfl rfl (rsh_has x0 (U k).toNat) ⟨⟨n2, Int.lt_of_le_of_lt l2 h2⟩, n3, Int.lt_of_le_of_lt l3 h4⟩ sAllr ?_ (s_all _)⟩
  show a2 / 2 ^ (U k).toNat ≤ U (x >>> (U k).toNat) ∧ U (x >>> (U k).toNat) ≤ a3 / 2 ^ (U k).toNat
  rw [ex]
  exact ⟨Int.ediv_le_ediv p x1, Int.ediv_le_ediv p x2⟩
theorem sshr_val (x : W) (k : Int) (k0 : 0 ≤ k) (k1 : k < 64) : wrap64 (U (x.sshiftRight k.toNat)) = wrap64 (U x) / 2 ^ k.toNat := by
 rw [← U_sshr x k k0 k1, shr_def .i64 rfl _ _ k0 k1]
 have p : (0 : Int) < 2 ^ k.toNat := Int.pow_pos (by decide)
 have r := wrap64_rg (U x)
 generalize wrap64 (U x) = s at *
 have h : -9223372036854775808 ≤ s / 2 ^ k.toNat ∧ s / 2 ^ k.toNat < 9223372036854775808 := by
  have p1 : (1 : Int) ≤ 2 ^ k.toNat := p
  by_cases hs : 0 ≤ s
  ·have := Int.ediv_le_self (2 ^ k.toNat) hs
   have := Int.ediv_nonneg hs (Int.le_of_lt p)
   omega
  ·have l1 : s / 2 ^ k.toNat < 0 := Int.ediv_neg_of_neg_of_pos (by omega) p
   have l2 : s ≤ s / 2 ^ k.toNat := by
    rw [Int.le_ediv_iff_mul_le p]
    have : s * 2 ^ k.toNat ≤ s * 1 := Int.mul_le_mul_of_nonpos_left (by omega) p1
    omega
   omega
 revert h
 generalize s / 2 ^ k.toNat = z
 intro h
 rw [IntKind.wrap_u64]
 unfold wrap64
 omega
theorem sdiv_bounds (s : Int) (k : Nat) : (if 0 ≤ s then 0 else s) ≤ s / 2 ^ k ∧ s / 2 ^ k ≤ (if 0 ≤ s then s else -1) := by
 have p : (0 : Int) < 2 ^ k := Int.pow_pos (by decide)
 have p1 : (1 : Int) ≤ 2 ^ k := p
 by_cases hs : 0 ≤ s
 ·rw [if_pos hs, if_pos hs]
  exact ⟨Int.ediv_nonneg hs (Int.le_of_lt p), Int.ediv_le_self _ hs⟩
 ·rw [if_neg hs, if_neg hs]
  have l1 : s / 2 ^ k < 0 := Int.ediv_neg_of_neg_of_pos (by omega) p
  refine ⟨?_, by omega⟩
  rw [Int.le_ediv_iff_mul_le p]
  have : s * 2 ^ k ≤ s * 1 := Int.mul_le_mul_of_nonpos_left (by omega) p1
  omega
theorem gives_arsh : Gives xf_arsh 64 (fun x y => x.sshiftRight (U y % 64).toNat) := by
 rintro p x y ⟨v, m, w, n, a2, a3, a4, a5, b2, b3, b4, b5, c, on, rfl, ha, hb, hx, hy, hon⟩
 obtain ⟨x0, x1, x2, x3, x4⟩ := hx
 obtain ⟨h1, h2, h3, h4, h5, h6, h7, h8⟩ := ha
 obtain ⟨k, e1, e2, e3, k0, k1⟩ := k_of (y := y) (tu := 64) (Or.inl rfl)
 have p : (0 : Int) < 2 ^ (U k).toNat := Int.pow_pos (by decide)
 have ex := sshr_val x (U k) k0 k1
 have bd := sdiv_bounds (wrap64 (U x)) (U k).toNat
 unfold xf_arsh
 dsimp only
 rw [if_neg (by decide), ← e3]
 cases on with
 | false =>
  rw [if_neg Bool.false_ne_true]
  refine ⟨_, rfl, nok rfl rfl (hasAll _) uAllr ⟨mn_rg ⟨h5, h6⟩ (by decide), mx_rg ⟨h7, h8⟩ (by decide)⟩ (u_all _) ?_⟩
  show mn a4 0 ≤ wrap64 (U (x.sshiftRight (U k).toNat)) ∧ wrap64 (U (x.sshiftRight (U k).toNat)) ≤ mx a5 (-1)
  rw [ex]
  revert bd x3 x4
  generalize wrap64 (U x) / 2 ^ (U k).toNat = z
  generalize wrap64 (U x) = s
  intro x3 x4 bd
  unfold mn mx
  by_cases hs : 0 ≤ s
  ·rw [if_pos hs, if_pos hs] at bd
   constructor <;> split <;> omega
  ·rw [if_neg hs, if_neg hs] at bd
   constructor <;> split <;> omega
 | true =>
  have hc := hon rfl
  subst hc
  rw [if_pos rfl, e1, if_pos k0, t_arsh, Option.bind_some, e2]
  rw [shr_def .i64 rfl _ _ k0 k1, shr_def .i64 rfl _ _ k0 k1]
  have b4 := sdiv_bounds a4 (U k).toNat
  have b5 := sdiv_bounds a5 (U k).toNat
  have r4 : -9223372036854775808 ≤ a4 / 2 ^ (U k).toNat ∧ a4 / 2 ^ (U k).toNat < 9223372036854775808 := by
   revert b4; generalize a4 / 2 ^ (U k).toNat = z; intro b4; by_cases hs : 0 ≤ a4
   ·rw [if_pos hs, if_pos hs] at b4; omega
   ·rw [if_neg hs, if_neg hs] at b4; omega
  have r5 : -9223372036854775808 ≤ a5 / 2 ^ (U k).toNat ∧ a5 / 2 ^ (U k).toNat < 9223372036854775808 := by
   revert b5; generalize a5 / 2 ^ (U k).toNat = z; intro b5; by_cases hs : 0 ≤ a5
   ·rw [if_pos hs, if_pos hs] at b5; omega
   ·rw [if_neg hs, if_neg hs] at b5; omega
  refine ⟨_, rfl, nok rfl rfl (arsh_has x0 (U k).toNat) uAllr ⟨r4, r5⟩ (u_all _) ?_⟩
  show a4 / 2 ^ (U k).toNat ≤ wrap64 (U (x.sshiftRight (U k).toNat)) ∧ wrap64 (U (x.sshiftRight (U k).toNat)) ≤ a5 / 2 ^ (U k).toNat
  rw [ex]
  exact ⟨Int.ediv_le_ediv p x3, Int.ediv_le_ediv p x4⟩
theorem gives_arsh32 (R : W → W → W) : Gives xf_arsh 32 R := by
 rintro p x y ⟨v, m, w, n, a2, a3, a4, a5, b2, b3, b4, b5, c, on, rfl, ha, hb, hx, hy, hon⟩
 unfold xf_arsh
 dsimp only
 rw [if_pos (by decide)]
 exact ⟨_, rfl, nok rfl rfl (hasAll _) uAllr sAllr (u_all _) (s_all _)⟩
/-! ### Any operation -/
def xfR (op : Int) (wide : Bool) (x y : W) : W :=
 if op = 0 then x + y else if op = 16 then x - y else if op = 32 then x * y else if op = 48 then x / y else if op = 144 then x % y else if op = 80 then x &&& y else if op = 64 then x ||| y else if op = 160 then x ^^^ y else
 if op = 96 then x <<< (U y % bitsOf wide).toNat else if op = 112 then x >>> (U y % bitsOf wide).toNat else if op = 192 then (if wide = true then x.sshiftRight (U y % 64).toNat else BitVec.ofInt 64 (shr .i64 (sgnOf false (U x)) (U y % 32))) else if op = 128 then 0#64 - x else y
theorem tu_of (wide : Bool) : bitsOf wide = 64 ∨ bitsOf wide = 32 := by cases wide; exact Or.inr rfl; exact Or.inl rfl
theorem givesM (op : Int) (wide : Bool) (h : xfIs op = true) : Gives (xfM op) (bitsOf wide) (xfR op wide) := by
 have hh : op = 0 ∨ op = 16 ∨ op = 32 ∨ op = 48 ∨ op = 144 ∨ op = 80 ∨ op = 64 ∨ op = 160 ∨ op = 96 ∨ op = 112 ∨ op = 192 ∨ op = 128 ∨ op = 176 := by simpa [xfIs, or_assoc] using h
 rcases hh with rfl | rfl | rfl | rfl | rfl | rfl | rfl | rfl | rfl | rfl | rfl | rfl | rfl
 ·exact gives_add _
 ·exact gives_sub _
 ·exact gives_mul _
 ·exact gives_div _
 ·exact gives_mod _
 ·exact gives_and _
 ·exact gives_or _
 ·exact gives_xor _
 ·exact gives_lsh (tu_of wide)
 ·exact gives_rsh (tu_of wide)
 ·cases wide with
  | true => exact gives_arsh
  | false => exact gives_arsh32 _
 ·exact gives_neg _
 ·exact gives_mov _
theorem U_ofInt (z : Int) : U (BitVec.ofInt 64 z) = IntKind.u64.wrap z := by
 unfold U
 rw [BitVec.toNat_ofInt, IntKind.wrap_u64]
 have : (0 : Int) ≤ z % 18446744073709551616 := Int.emod_nonneg _ (by decide)
 have e : (((2 ^ 64 : Nat) : Int)) = 18446744073709551616 := by decide
 rw [e]
 omega
theorem doV_R0 (wide : Bool) (x y : W) : doV 0 wide (U x) (U y) = (lowOf wide (U (xfR 0 wide x y)), true) := by
 have n := n_rg wide (U y)
 unfold doV shV opV xfR
 simp only [Int.reduceEq, Int.reduceNeg, ↓reduceIte, Bool.false_eq_true]
 rw [U_add]
theorem doV_R16 (wide : Bool) (x y : W) : doV 16 wide (U x) (U y) = (lowOf wide (U (xfR 16 wide x y)), true) := by
 have n := n_rg wide (U y)
 unfold doV shV opV xfR
 simp only [Int.reduceEq, Int.reduceNeg, ↓reduceIte, Bool.false_eq_true]
 rw [U_sub]
theorem doV_R32 (wide : Bool) (x y : W) : doV 32 wide (U x) (U y) = (lowOf wide (U (xfR 32 wide x y)), true) := by
 have n := n_rg wide (U y)
 unfold doV shV opV xfR
 simp only [Int.reduceEq, Int.reduceNeg, ↓reduceIte, Bool.false_eq_true]
 rw [U_mul]
theorem doV_R48 (wide : Bool) (x y : W) : doV 48 wide (U x) (U y) = (lowOf wide (U (xfR 48 wide x y)), true) := by
 have n := n_rg wide (U y)
 unfold doV shV opV xfR
 simp only [Int.reduceEq, Int.reduceNeg, ↓reduceIte, Bool.false_eq_true]
 rw [U_div]
 by_cases h0 : U y = 0
 ·rw [if_pos h0, h0, Int.ediv_zero]
 ·have l := Int.ediv_le_self (U y) (U_lo x)
  have g := Int.ediv_nonneg (U_lo x) (U_lo y)
  have := U_hi x
  rw [if_neg h0, Int.tdiv_eq_ediv_of_nonneg (U_lo x), wrap_u64_id g (by omega)]
theorem doV_R144 (wide : Bool) (x y : W) : doV 144 wide (U x) (U y) = (lowOf wide (U (xfR 144 wide x y)), true) := by
 have n := n_rg wide (U y)
 unfold doV shV opV xfR
 simp only [Int.reduceEq, Int.reduceNeg, ↓reduceIte, Bool.false_eq_true]
 rw [U_mod]
 by_cases h0 : U y = 0
 ·rw [if_pos h0, h0, Int.emod_zero]
 ·rw [if_neg h0, Int.tmod_eq_emod_of_nonneg (U_lo x)]
theorem doV_R80 (wide : Bool) (x y : W) : doV 80 wide (U x) (U y) = (lowOf wide (U (xfR 80 wide x y)), true) := by
 have n := n_rg wide (U y)
 unfold doV shV opV xfR
 simp only [Int.reduceEq, Int.reduceNeg, ↓reduceIte, Bool.false_eq_true]
 rw [U_and]
theorem doV_R64 (wide : Bool) (x y : W) : doV 64 wide (U x) (U y) = (lowOf wide (U (xfR 64 wide x y)), true) := by
 have n := n_rg wide (U y)
 unfold doV shV opV xfR
 simp only [Int.reduceEq, Int.reduceNeg, ↓reduceIte, Bool.false_eq_true]
 rw [U_or]
theorem doV_R160 (wide : Bool) (x y : W) : doV 160 wide (U x) (U y) = (lowOf wide (U (xfR 160 wide x y)), true) := by
 have n := n_rg wide (U y)
 unfold doV shV opV xfR
 simp only [Int.reduceEq, Int.reduceNeg, ↓reduceIte, Bool.false_eq_true]
 rw [U_xor]
theorem doV_R96 (wide : Bool) (x y : W) : doV 96 wide (U x) (U y) = (lowOf wide (U (xfR 96 wide x y)), true) := by
 have n := n_rg wide (U y)
 unfold doV shV opV xfR
 simp only [Int.reduceEq, Int.reduceNeg, ↓reduceIte, Bool.false_eq_true]
 rw [U_shl x _ n.1 n.2]
theorem doV_R112 (wide : Bool) (x y : W) : doV 112 wide (U x) (U y) = (lowOf wide (U (xfR 112 wide x y)), true) := by
 have n := n_rg wide (U y)
 unfold doV shV opV xfR
 simp only [Int.reduceEq, Int.reduceNeg, ↓reduceIte, Bool.false_eq_true]
 rw [U_shr x _ n.1 n.2]
theorem doV_R192 (wide : Bool) (x y : W) : doV 192 wide (U x) (U y) = (lowOf wide (U (xfR 192 wide x y)), true) := by
 have n := n_rg wide (U y)
 unfold doV shV xfR
 simp only [Int.reduceEq, Int.reduceNeg, ↓reduceIte, Bool.false_eq_true]
 cases wide with
 | true =>
  have e1 : sgnOf true (U x) = wrap64 (U x) := if_pos rfl
  have e2 : bitsOf true = 64 := rfl
  rw [e2] at n ⊢
  rw [e1, U_sshr x _ n.1 n.2, if_pos rfl]
 | false =>
  have e2 : bitsOf false = 32 := rfl
  rw [e2, if_neg Bool.false_ne_true, U_ofInt]
theorem doV_R128 (wide : Bool) (x y : W) : doV 128 wide (U x) (U y) = (lowOf wide (U (xfR 128 wide x y)), true) := by
 have n := n_rg wide (U y)
 unfold doV shV opV xfR
 simp only [Int.reduceEq, Int.reduceNeg, ↓reduceIte, Bool.false_eq_true]
 rw [← U_sub, show U 0#64 = 0 from rfl, Int.zero_sub]
theorem doV_R176 (wide : Bool) (x y : W) : doV 176 wide (U x) (U y) = (lowOf wide (U (xfR 176 wide x y)), true) := by
 have n := n_rg wide (U y)
 unfold doV shV opV xfR
 simp only [Int.reduceEq, Int.reduceNeg, ↓reduceIte, Bool.false_eq_true]
theorem doV_R (op : Int) (wide : Bool) (x y : W) (h : xfIs op = true) : doV op wide (U x) (U y) = (lowOf wide (U (xfR op wide x y)), true) := by
 have hh : op = 0 ∨ op = 16 ∨ op = 32 ∨ op = 48 ∨ op = 144 ∨ op = 80 ∨ op = 64 ∨ op = 160 ∨ op = 96 ∨ op = 112 ∨ op = 192 ∨ op = 128 ∨ op = 176 := by simpa [xfIs, or_assoc] using h
 rcases hh with rfl | rfl | rfl | rfl | rfl | rfl | rfl | rfl | rfl | rfl | rfl | rfl | rfl
 ·exact doV_R0 wide x y
 ·exact doV_R16 wide x y
 ·exact doV_R32 wide x y
 ·exact doV_R48 wide x y
 ·exact doV_R144 wide x y
 ·exact doV_R80 wide x y
 ·exact doV_R64 wide x y
 ·exact doV_R160 wide x y
 ·exact doV_R96 wide x y
 ·exact doV_R112 wide x y
 ·exact doV_R192 wide x y
 ·exact doV_R128 wide x y
 ·exact doV_R176 wide x y
/-! ### What is cut to four bytes -/
theorem orAll2 (v m : W) {a2 a3 a4 a5 : Int} (h : RG a2 a3 a4 a5) (x : W) (hx : NH v m a2 a3 a4 a5 x) : ∃ (v' m' : W) (c2 c3 c4 c5 : Int), num_orAll.f (U v) (U m) a2 a3 a4 a5 = some (U v', U m', c2, c3, c4, c5) ∧ RG c2 c3 c4 c5 ∧ NH v' m' c2 c3 c4 c5 x := by
 unfold num_orAll.f
 obtain ⟨ok, v', m', c2, c3, c4, c5, e, t, u⟩ := refine_told v m h
 rw [e, Option.bind_some]
 cases ok with
 | true => exact ⟨v', m', c2, c3, c4, c5, rfl, (t.yes rfl).1, ((t.yes rfl).2 x).2 hx⟩
 | false => exact absurd hx (t.no rfl x)
theorem cut4 (k : Nat) (v m : W) {a2 a3 a4 a5 : Int} (h : RG a2 a3 a4 a5) (x : W) (hx : NH v m a2 a3 a4 a5 x) : ∃ (v' m' : W) (c2 c3 c4 c5 : Int), num_Cut.f (k + 1) (U v) (U m) a2 a3 a4 a5 4 = some (U v', U m', c2, c3, c4, c5) ∧ RG c2 c3 c4 c5 ∧ NH v' m' c2 c3 c4 c5 (x &&& 4294967295#64) := by
 have hand : ∀ x : W, U (x &&& 4294967295#64) ≤ U 4294967295#64 := fun x => (and_le x _).2
 have hsame : ∀ x : W, U x ≤ U 4294967295#64 → x &&& 4294967295#64 = x := fun x hx => by
  apply BitVec.eq_of_toNat_eq
  rw [BitVec.toNat_and, show (4294967295#64).toNat = 2 ^ 32 - 1 from rfl, Nat.and_two_pow_sub_one_eq_mod]
  unfold U at hx
  have : (4294967295#64).toNat = 4294967295 := rfl
  exact Nat.mod_eq_of_lt (by omega)
 unfold num_Cut.f
 rw [if_neg (by decide), show words_IsSize.f 4 = some true from rfl, Option.bind_some, show (!true) = false from rfl, num_Cut.j0, if_neg Bool.false_ne_true]
 rw [show num_All.f = some (0, 18446744073709551615, 0, 18446744073709551615, -9223372036854775808, 9223372036854775807) from rfl, Option.bind_some, t_cut4, Option.bind_some, show words_Low.f (wrap64 (8 * 4)) = some (U 4294967295#64) from by kernel_rfl, Option.bind_some]
 obtain ⟨h1, h2, h3, h4, h5, h6, h7, h8⟩ := h
 obtain ⟨b, rfl⟩ := U_out a3 h3 h4
 have hLow : num_Low.f (U v) (U m) a2 (U b) a4 a5 4 = some (U b == U (b &&& 4294967295#64)) := by
  unfold num_Low.f
  rw [t_zext4, Option.bind_some]
 rw [hLow, Option.bind_some]
 by_cases hb : (U b == U (b &&& 4294967295#64)) = true
 ·rw [if_pos hb]
  have hle : U b ≤ U 4294967295#64 := by
   rw [beq_iff_eq.1 hb]; exact hand b
  have hxc : x &&& 4294967295#64 = x := hsame x (Int.le_trans hx.2.2.1 hle)
  obtain ⟨v', m', c2, c3, c4, c5, e, r, t⟩ := orAll2 _ _ (⟨h1, h2, h3, h4, by decide, by decide, by decide, by decide⟩ : RG a2 (U b) (-9223372036854775808) 9223372036854775807) (x &&& 4294967295#64) ⟨cut_has hx.1, by rw [hxc]; exact hx.2.1, by rw [hxc]; exact hx.2.2.1, s_all _⟩
  rw [e, Option.bind_some]
  exact ⟨v', m', c2, c3, c4, c5, rfl, r, t⟩
 ·rw [if_neg hb]
  obtain ⟨v', m', c2, c3, c4, c5, e, r, t⟩ := orAll2 _ _ (⟨by decide, by decide, by decide, by decide, by decide, by decide, by decide, by decide⟩ : RG 0 (U 4294967295#64) (-9223372036854775808) 9223372036854775807) (x &&& 4294967295#64) ⟨cut_has hx.1, U_lo _, hand x, s_all _⟩
  rw [e, Option.bind_some]
  exact ⟨v', m', c2, c3, c4, c5, rfl, r, t⟩
theorem low_and (x : W) : lowOf false (U x) = U (x &&& 4294967295#64) := by
 show U x % 4294967296 = _
 rw [← t_low4, Int.tmod_eq_emod_of_nonneg (U_lo x)]
theorem U0 {n : W} : U n = 0 ↔ n = 0#64 := by rw [U_zero, U_inj]
theorem has_one {w y : W} (h : Has w 0#64 y) : y = w := by
 apply BitVec.eq_of_getLsbD_eq
 intro i hi
 have := has_bit h hi
 simpa using this
theorem isConst_val (v m : W) (a2 a3 a4 a5 : Int) : num_IsConst.f (U v) (U m) a2 a3 a4 a5 = some (if m = 0#64 then U v else 0, decide (m = 0#64)) := by
 unfold num_IsConst.f
 by_cases h : m = 0#64
 ·rw [if_pos (U0.2 h), if_pos h, decide_eq_true h]
 ·rw [if_neg (fun e => h (U0.1 e)), if_neg h, decide_eq_false h]
theorem const_num (x : Int) : num_Const.f x = some (x, 0, x, x, wrap64 x, wrap64 x) := by
 unfold num_Const.f
 rfl
theorem all_num : num_All.f = some (U 0#64, U (BitVec.allOnes 64), 0, 18446744073709551615, -9223372036854775808, 9223372036854775807) := rfl
theorem const_has (z : W) : NH z 0#64 (U z) (U z) (wrap64 (U z)) (wrap64 (U z)) z := ⟨rfl, Int.le_refl _, Int.le_refl _, Int.le_refl _, Int.le_refl _⟩
/-- A row, refined. -/
theorem row_told (op : Int) (wide : Bool) (his : xfIs op = true) {v m w n x y : W} {a2 a3 a4 a5 b2 b3 b4 b5 : Int} (ha : RG a2 a3 a4 a5) (hb : RG b2 b3 b4 b5) (hx : NH v m a2 a3 a4 a5 x) (hy : NH w n b2 b3 b4 b5 y) :
  ∃ q, xfM op ⟨U v, U m, a2, a3, a4, a5, U w, U n, b2, b3, b4, b5, if n = 0#64 then U w else 0, decide (n = 0#64), bitsOf wide, U 0#64, U (BitVec.allOnes 64), 0, 18446744073709551615, -9223372036854775808, 9223372036854775807⟩ = some q ∧
   ∃ (v' m' : W) (c2 c3 c4 c5 : Int), num_Refine.f q.n0 q.n1 q.n2 q.n3 q.n4 q.n5 = some (U v', U m', c2, c3, c4, c5, true) ∧ RG c2 c3 c4 c5 ∧ NH v' m' c2 c3 c4 c5 (xfR op wide x y) := by
 obtain ⟨q, hq, v1, m1, e0, e1, r, h⟩ := givesM op wide his _ x y ⟨v, m, w, n, a2, a3, a4, a5, b2, b3, b4, b5, if n = 0#64 then U w else 0, decide (n = 0#64), rfl, ha, hb, hx, hy, fun e => by
  have e := of_decide_eq_true e
  rw [if_pos e]
  subst e
  rw [has_one hy.1]⟩
 refine ⟨q, hq, ?_⟩
 obtain ⟨ok, v', m', c2, c3, c4, c5, e, t, _⟩ := refine_told v1 m1 r
 rw [e0, e1, e]
 cases ok with
 | false => exact absurd h (t.no rfl _)
 | true => exact ⟨v', m', c2, c3, c4, c5, rfl, (t.yes rfl).1, ((t.yes rfl).2 _).2 h⟩
theorem do_told (k : Nat) (op : Int) (wide : Bool) (his : xfIs op = true) {v m w n x y : W} {a2 a3 a4 a5 b2 b3 b4 b5 : Int} (ha : RG a2 a3 a4 a5) (hb : RG b2 b3 b4 b5) (hx : NH v m a2 a3 a4 a5 x) (hy : NH w n b2 b3 b4 b5 y) :
  ∃ (v' m' z : W) (c2 c3 c4 c5 : Int), xfer_Do.f (k + 1) op wide (U v) (U m) a2 a3 a4 a5 (U w) (U n) b2 b3 b4 b5 = some (U v', U m', c2, c3, c4, c5, true) ∧ doV op wide (lowOf wide (U x)) (lowOf wide (U y)) = (U z, true) ∧ NH v' m' c2 c3 c4 c5 z := by
 unfold xfer_Do.f
 rw [his, if_pos rfl, isConst_val, Option.bind_some, isConst_val, Option.bind_some]
 dsimp only
 cases hc : (decide (m = 0#64) && decide (n = 0#64)) with
 | true =>
  rw [Bool.and_eq_true, decide_eq_true_eq, decide_eq_true_eq] at hc
  obtain ⟨rfl, rfl⟩ := hc
  obtain rfl := has_one hx.1
  obtain rfl := has_one hy.1
  rw [if_pos rfl, if_pos rfl, if_pos rfl, do_val op wide (U_rg _) (U_rg _), Option.bind_some]
  try dsimp only
  rw [const_num, Option.bind_some]
  have hv : ∃ z : W, doV op wide (lowOf wide (U x)) (lowOf wide (U y)) = (U z, true) := by
   cases wide with
   | true => exact ⟨_, doV_R op true x y his⟩
   | false =>
    rw [low_and, low_and, doV_R op false _ _ his, low_and]
    exact ⟨_, rfl⟩
  obtain ⟨z, hz⟩ := hv
  rw [hz]
  exact ⟨z, 0#64, z, _, _, _, _, rfl, rfl, const_has z⟩
 | false =>
  rw [if_neg Bool.false_ne_true, all_num, Option.bind_some]
  try dsimp only
  cases wide with
  | true =>
   rw [if_pos rfl]
   obtain ⟨q, hq, v', m', c2, c3, c4, c5, e, r, h⟩ := row_told op true his ha hb hx hy
   have hq' : xfM op ⟨U v, U m, a2, a3, a4, a5, U w, U n, b2, b3, b4, b5, if n = 0#64 then U w else 0, decide (n = 0#64), 64, U 0#64, U (BitVec.allOnes 64), 0, 18446744073709551615, -9223372036854775808, 9223372036854775807⟩ = some q := hq
   rw [hq', Option.bind_some, e, Option.bind_some]
   exact ⟨v', m', _, c2, c3, c4, c5, rfl, doV_R op true x y his, h⟩
  | false =>
   rw [if_neg Bool.false_ne_true]
   obtain ⟨v1, m1, a2', a3', a4', a5', e1, r1, k1⟩ := cut4 k v m ha x hx
   obtain ⟨w1, n1, b2', b3', b4', b5', e2, r2, k2⟩ := cut4 k w n hb y hy
   rw [e1, Option.bind_some, e2, Option.bind_some]
   try dsimp only
   rw [isConst_val, Option.bind_some]
   try dsimp only
   obtain ⟨q, hq, v', m', c2, c3, c4, c5, e, r, h⟩ := row_told op false his r1 r2 k1 k2
   have hq' : xfM op ⟨U v1, U m1, a2', a3', a4', a5', U w1, U n1, b2', b3', b4', b5', if n1 = 0#64 then U w1 else 0, decide (n1 = 0#64), 32, U 0#64, U (BitVec.allOnes 64), 0, 18446744073709551615, -9223372036854775808, 9223372036854775807⟩ = some q := hq
   rw [hq', Option.bind_some, e, Option.bind_some]
   obtain ⟨v2, m2, d2, d3, d4, d5, e3, r3, k3⟩ := cut4 k v' m' r _ h
   rw [e3, Option.bind_some]
   refine ⟨v2, m2, _, d2, d3, d4, d5, rfl, ?_, k3⟩
   rw [low_and, low_and, doV_R op false _ _ his, low_and]
theorem hasN (k : Nat) (hk : 129 < k) (v m x : W) (a2 a3 a4 a5 : Int) : halberdref07_Has.f k (U v) (U m) a2 a3 a4 a5 (U x) = some (decide (NH v m a2 a3 a4 a5 x)) := rhas07 v m x a2 a3 a4 a5 k hk
theorem rg_of {a2 a3 a4 a5 : Int} (h : (Lit.int .u64 a2).wf = true ∧ (Lit.int .u64 a3).wf = true ∧ (Lit.int .i64 a4).wf = true ∧ (Lit.int .i64 a5).wf = true) : RG a2 a3 a4 a5 :=
 ⟨(u64_of h.1).1, (u64_of h.1).2, (u64_of h.2.1).1, (u64_of h.2.1).2, (i64_of h.2.2.1).1, (i64_of h.2.2.1).2, (i64_of h.2.2.2).1, (i64_of h.2.2.2).2⟩
theorem xf_alive : halberdlaw08_alive.f 202 = some true := by kernel_rfl
theorem XferSound : halberdlaw08_XferSound.Pure := by
 intro op wide v m a2 a3 a4 a5 w n b2 b3 b4 b5 x y h0 h1 h2 h3 h4
 have ha := rg_of h1.2
 have hb := rg_of h2.2
 obtain ⟨v, rfl⟩ := U_wf h1.1.1
 obtain ⟨m, rfl⟩ := U_wf h1.1.2
 obtain ⟨w, rfl⟩ := U_wf h2.1.1
 obtain ⟨n, rfl⟩ := U_wf h2.1.2
 obtain ⟨x, rfl⟩ := U_wf h3
 obtain ⟨y, rfl⟩ := U_wf h4
 refine ⟨202, ?_⟩
 unfold halberdlaw08_XferSound.f
 refine ask_ xf_alive ?_
 refine have_ (hasN 202 (by decide) v m x a2 a3 a4 a5) ?_
 by_cases hx : NH v m a2 a3 a4 a5 x
 rotate_left
 ·refine no_ (by rw [decide_eq_false hx]; decide) ?_
  rw [halberdlaw08_XferSound.j0]
  exact yes_ rfl rfl
 refine yes_ (decide_eq_true hx) ?_
 refine have_ (hasN 202 (by decide) w n y b2 b3 b4 b5) ?_
 rw [halberdlaw08_XferSound.j0]
 by_cases hy : NH w n b2 b3 b4 b5 y
 rotate_left
 ·refine yes_ ?_ rfl
  rw [decide_eq_false hy]; rfl
 refine no_ (by rw [decide_eq_true hy]; decide) ?_
 have e2 := refdo_val op wide (U_rg x) (U_rg y)
 cases his : xfIs op with
 | false =>
  have e1 : xfer_Do.f 201 op wide (U v) (U m) a2 a3 a4 a5 (U w) (U n) b2 b3 b4 b5 = some (U 0#64, U (BitVec.allOnes 64), 0, 18446744073709551615, -9223372036854775808, 9223372036854775807, false) := by
   unfold xfer_Do.f
   rw [his, if_neg Bool.false_ne_true, all_num, Option.bind_some]
  refine have_ e1 ?_
  refine have_ e2 ?_
  rw [doV_is, his]
  rfl
 | true =>
  obtain ⟨v', m', z, c2, c3, c4, c5, e1, e3, h⟩ := do_told 200 op wide his ha hb hx hy
  refine have_ e1 ?_
  refine have_ e2 ?_
  rw [e3]
  refine yes_ rfl ?_
  refine yes_ rfl ?_
  refine have_ (hasN 201 (by decide) v' m' z c2 c3 c4 c5) ?_
  rw [decide_eq_true h]
end Go.Proofs.Ytkgmdcibjjkhlaa.Pure
