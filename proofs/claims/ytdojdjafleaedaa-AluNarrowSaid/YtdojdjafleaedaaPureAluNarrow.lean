/- An operation of 32 bits hangs on low bytes alone, and so does a condition: for every opcode and all numbers. -/
import Derived.Test.YtdojdjafleaedaaPAluNarrowx3
import Derived.Test.YtdojdjafleaedaaTB
import Derived.Lib.ItoaNum
set_option linter.unusedVariables false
set_option linter.unusedSimpArgs false
namespace Go.Proofs.Ytdojdjafleaedaa.Pure
open Go.RowKit Go.Proofs.Ytdojdjafleaedaa.PAluNarrow Go.Proofs.YtdojdjafleaedaaW.PrintWords Go.Proofs.YtdojdjafleaedaaW.PrintLast Go.Proofs.YtdojdjafleaedaaW.PrintMore Go.Proofs.Ytdojdjafleaedaa.HB Go.Proofs.Ytdojdjafleaedaa.TB

/-! ### Low bytes and signs -/
def lowOf (wide : Bool) (x : Int) : Int := if wide = true then x else x % 4294967296
def sgnOf (wide : Bool) (y : Int) : Int := if wide = true then wrap64 y else if y % 4294967296 ≥ 2147483648 then y % 4294967296 - 4294967296 else y % 4294967296
theorem lowOf_rg (wide : Bool) {x : Int} (h : 0 ≤ x ∧ x < 18446744073709551616) : 0 ≤ lowOf wide x ∧ lowOf wide x < 18446744073709551616 := by
  unfold lowOf
  cases wide <;> simp only [if_true, if_false, Bool.false_eq_true] <;> omega
theorem a_zext (wide : Bool) {x : Int} (h : 0 ≤ x ∧ x < 18446744073709551616) : words_Zext.f x (if wide = true then 8 else 4) = some (lowOf wide x) := by
  cases wide with
  | false =>
    have e : words_Zext.f x 4 = some (bits .and .u64 x 4294967295) := by kernel_rfl
    refine Eq.trans e (congrArg some ?_)
    rw [and_mask x 32 4294967295 (by decide) (by decide) h.1 h.2]
    rfl
  | true =>
    have e : words_Zext.f x 8 = some (bits .and .u64 x 18446744073709551615) := by kernel_rfl
    refine Eq.trans e (congrArg some ?_)
    rw [and_mask x 64 18446744073709551615 (by decide) (by decide) h.1 h.2]
    show x % 2 ^ 64 = x
    omega
theorem a_sext (wide : Bool) {y : Int} (h : 0 ≤ y ∧ y < 18446744073709551616) : ∃ s, words_Sext.f y (if wide = true then 8 else 4) = some s ∧ wrap64 s = sgnOf wide y := by
  cases wide with
  | false =>
    refine ⟨IntKind.u64.wrap (wrap64 (IntKind.u64.wrap (y * 4294967296)) / 4294967296), by kernel_rfl, ?_⟩
    unfold sgnOf
    rw [if_neg Bool.false_ne_true]
    simp only [IntKind.wrap_u64, wrap64]
    split <;> omega
  | true =>
    refine ⟨IntKind.u64.wrap (wrap64 (IntKind.u64.wrap (y * 1)) / 1), by kernel_rfl, ?_⟩
    unfold sgnOf
    rw [if_pos rfl]
    simp only [IntKind.wrap_u64, wrap64]
    omega
theorem holds_val (op : Int) (wide : Bool) {a b : Int} (ha : 0 ≤ a ∧ a < 18446744073709551616) (hb : 0 ≤ b ∧ b < 18446744073709551616) :
    alu_Holds.f op wide a b = match alu_cond.f op (lowOf wide a) (lowOf wide b) (sgnOf wide (lowOf wide a)) (sgnOf wide (lowOf wide b)) with | some r => some (r, true) | none => some (false, false) := by
  unfold alu_Holds.f
  obtain ⟨s, e1, e2⟩ := a_sext wide (lowOf_rg wide ha)
  obtain ⟨t, e3, e4⟩ := a_sext wide (lowOf_rg wide hb)
  rw [a_zext wide ha, Option.bind_some, a_zext wide hb, Option.bind_some, e1, Option.bind_some, e3, Option.bind_some, e2, e4]
  all_goals (cases alu_cond.f op (lowOf wide a) (lowOf wide b) (sgnOf wide (lowOf wide a)) (sgnOf wide (lowOf wide b)) <;> rfl)
/-! ### What an operation tells -/
def bitsOf (wide : Bool) : Int := if wide = true then 64 else 32
def shV (op : Int) (wide : Bool) (x y : Int) : Int × Bool := if op = 96 then (shl .u64 x (y % bitsOf wide), true) else if op = 112 then (shr .u64 x (y % bitsOf wide), true) else if op = 192 then (IntKind.u64.wrap (shr .i64 (sgnOf wide x) (y % bitsOf wide)), true) else (0, false)
theorem sh_val (op : Int) (wide : Bool) {x y : Int} (hx : 0 ≤ x ∧ x < 18446744073709551616) (hy : 0 ≤ y) : alu_shift.f op (if wide = true then 64 else 32) x y = some (shV op wide x y) := by
  obtain ⟨s, e1, e2⟩ := a_sext wide hx
  have hb : (if wide = true then (64 : Int) else 32) = bitsOf wide := rfl
  have hp : 0 < bitsOf wide := by unfold bitsOf; split <;> decide
  have hn : ¬ bitsOf wide = 0 := by omega
  have hm : Int.tmod y (bitsOf wide) = y % bitsOf wide := Int.tmod_eq_emod_of_nonneg hy
  have h0 : 0 ≤ y % bitsOf wide := Int.emod_nonneg _ hn
  have hs : wrap64 (Int.tdiv (wrap64 (bitsOf wide)) 8) = (if wide = true then 8 else 4) := by cases wide <;> kernel_rfl
  unfold alu_shift.f shV
  rw [hb, if_neg hn, hm, hs, e1, Option.bind_some, e2, if_pos h0, if_pos h0, if_pos h0]
  by_cases h1 : op = 96
  · rw [if_pos h1, if_pos h1]
  rw [if_neg h1, if_neg h1]
  by_cases h2 : op = 112
  · rw [if_pos h2, if_pos h2]
  rw [if_neg h2, if_neg h2]
  by_cases h3 : op = 192
  · rw [if_pos h3, if_pos h3]
  rw [if_neg h3, if_neg h3]
theorem n_rg (wide : Bool) (y : Int) : 0 ≤ y % bitsOf wide ∧ y % bitsOf wide < 64 := by
  unfold bitsOf; cases wide <;> simp only [if_true, if_false, Bool.false_eq_true] <;> omega
theorem sh_rg (op : Int) (wide : Bool) {x y : Int} (hx : 0 ≤ x ∧ x < 18446744073709551616) : 0 ≤ (shV op wide x y).1 ∧ (shV op wide x y).1 < 18446744073709551616 := by
  obtain ⟨X, rfl⟩ := U_of hx.1 hx.2
  have n := n_rg wide y
  unfold shV
  split
  · rw [U_shl X _ n.1 n.2]; exact ⟨U_lo _, U_hi _⟩
  split
  · rw [U_shr X _ n.1 n.2]; exact ⟨U_lo _, U_hi _⟩
  split
  · show 0 ≤ IntKind.u64.wrap _ ∧ IntKind.u64.wrap _ < _
    rw [IntKind.wrap_u64]; omega
  · exact ⟨by decide, by decide⟩
def opV (op a b : Int) : Int × Bool := if op = 0 then (IntKind.u64.wrap (a + b), true) else if op = 16 then (IntKind.u64.wrap (a - b), true) else if op = 32 then (IntKind.u64.wrap (a * b), true) else if op = 48 then (if b = 0 then 0 else IntKind.u64.wrap (Int.tdiv a b), true) else if op = 144 then (if b = 0 then a else Int.tmod a b, true) else if op = 64 then (Go.bits .or .u64 a b, true) else if op = 80 then (Go.bits .and .u64 a b, true) else if op = 160 then (Go.bits .xor .u64 a b, true) else if op = 176 then (b, true) else if op = 128 then (IntKind.u64.wrap (-a), true) else (0, false)
theorem op_val (op a b : Int) : alu_op.f op a b = some (opV op a b) := by
  unfold alu_op.f opV
  by_cases h0 : op = 0
  · rw [if_pos h0, if_pos h0]
  rw [if_neg h0, if_neg h0]
  by_cases h1 : op = 16
  · rw [if_pos h1, if_pos h1]
  rw [if_neg h1, if_neg h1]
  by_cases h2 : op = 32
  · rw [if_pos h2, if_pos h2]
  rw [if_neg h2, if_neg h2]
  by_cases h3 : op = 48
  · rw [if_pos h3, if_pos h3]; unfold alu_div.f; by_cases hb : b = 0
    · rw [if_pos hb, if_pos hb]; rfl
    · rw [if_neg hb, if_neg hb]; rfl
  rw [if_neg h3, if_neg h3]
  by_cases h4 : op = 144
  · rw [if_pos h4, if_pos h4]; unfold alu_mod.f; by_cases hb : b = 0
    · rw [if_pos hb, if_pos hb]; rfl
    · rw [if_neg hb, if_neg hb]; rfl
  rw [if_neg h4, if_neg h4]
  by_cases h5 : op = 64
  · rw [if_pos h5, if_pos h5]
  rw [if_neg h5, if_neg h5]
  by_cases h6 : op = 80
  · rw [if_pos h6, if_pos h6]
  rw [if_neg h6, if_neg h6]
  by_cases h7 : op = 160
  · rw [if_pos h7, if_pos h7]
  rw [if_neg h7, if_neg h7]
  by_cases h8 : op = 176
  · rw [if_pos h8, if_pos h8]
  rw [if_neg h8, if_neg h8]
  by_cases h9 : op = 128
  · rw [if_pos h9, if_pos h9]
  rw [if_neg h9, if_neg h9]
theorem uw_rg (z : Int) : 0 ≤ IntKind.u64.wrap z ∧ IntKind.u64.wrap z < 18446744073709551616 := by rw [IntKind.wrap_u64]; omega
theorem op_rg (op : Int) {a b : Int} (ha : 0 ≤ a ∧ a < 18446744073709551616) (hb : 0 ≤ b ∧ b < 18446744073709551616) : 0 ≤ (opV op a b).1 ∧ (opV op a b).1 < 18446744073709551616 := by
  obtain ⟨A, rfl⟩ := U_of ha.1 ha.2
  obtain ⟨B, rfl⟩ := U_of hb.1 hb.2
  unfold opV
  split
  · exact uw_rg _
  split
  · exact uw_rg _
  split
  · exact uw_rg _
  split
  · dsimp only
    split
    · exact ⟨by decide, by decide⟩
    · exact uw_rg _
  split
  · dsimp only
    split
    · exact ha
    · rename_i h
      rw [Int.tmod_eq_emod_of_nonneg ha.1]
      exact ⟨Int.emod_nonneg _ h, Int.lt_trans (Int.emod_lt_of_pos _ (by omega)) hb.2⟩
  split
  · rw [U_or]; exact ⟨U_lo _, U_hi _⟩
  split
  · rw [U_and]; exact ⟨U_lo _, U_hi _⟩
  split
  · rw [U_xor]; exact ⟨U_lo _, U_hi _⟩
  split
  · exact hb
  split
  · exact uw_rg _
  · exact ⟨by decide, by decide⟩
def doV (op : Int) (wide : Bool) (x y : Int) : Int × Bool := if (shV op wide x y).2 = true then (lowOf wide (shV op wide x y).1, true) else if (opV op x y).2 = true then (lowOf wide (opV op x y).1, true) else (0, false)
theorem do_val (op : Int) (wide : Bool) {a b : Int} (ha : 0 ≤ a ∧ a < 18446744073709551616) (hb : 0 ≤ b ∧ b < 18446744073709551616) : alu_Do.f op wide a b = some (doV op wide (lowOf wide a) (lowOf wide b)) := by
  have hx := lowOf_rg wide ha
  have hy := lowOf_rg wide hb
  unfold alu_Do.f doV
  rw [a_zext wide ha, Option.bind_some, a_zext wide hb, Option.bind_some, sh_val op wide hx hy.1, Option.bind_some]
  by_cases h1 : (shV op wide (lowOf wide a) (lowOf wide b)).2 = true
  · rw [if_pos h1, if_pos h1, a_zext wide (sh_rg op wide hx), Option.bind_some]
  · rw [if_neg h1, if_neg h1, op_val, Option.bind_some]
    by_cases h2 : (opV op (lowOf wide a) (lowOf wide b)).2 = true
    · rw [if_pos h2, if_pos h2, a_zext wide (op_rg op hx hy), Option.bind_some]
    · rw [if_neg h2, if_neg h2]
theorem alu_alive : halberdlaw04_alive.f = some true := by kernel_rfl
theorem same_low (a c : Int) (ha : 0 ≤ a) : lowOf false (IntKind.u64.wrap (Int.tmod a 4294967296 + IntKind.u64.wrap (c * 4294967296))) = lowOf false a := by
  unfold lowOf
  rw [if_neg Bool.false_ne_true, if_neg Bool.false_ne_true, Int.tmod_eq_emod_of_nonneg ha]
  simp only [IntKind.wrap_u64]
  omega
theorem low_lt (z : Int) : lowOf false z < 4294967296 := by
  unfold lowOf
  rw [if_neg Bool.false_ne_true]
  omega
theorem AluNarrow : halberdlaw04_AluNarrow.Pure := by
  intro op a b c d h0 h1 h2 h3 h4
  have ha := u64_of h1
  have hb := u64_of h2
  unfold halberdlaw04_AluNarrow.f
  refine ask_ alu_alive ?_
  rw [do_val op false ha hb, Option.bind_some, do_val op false (uw_rg _) (uw_rg _), Option.bind_some, holds_val op false ha hb, holds_val op false (uw_rg _) (uw_rg _), same_low a c ha.1, same_low b d hb.1]
  have hlt : (doV op false (lowOf false a) (lowOf false b)).1 < 4294967296 := by
    unfold doV
    split
    · exact low_lt _
    split
    · exact low_lt _
    · decide
  cases alu_cond.f op (lowOf false a) (lowOf false b) (sgnOf false (lowOf false a)) (sgnOf false (lowOf false b)) with
  | none => simp [hlt]
  | some r => simp [hlt]

end Go.Proofs.Ytdojdjafleaedaa.Pure
