/- Whether any condition holds is the document's: for every opcode, narrow or wide, and all numbers. -/
import Derived.Test.YtdojdjafleaedaaPAluHoldsx3
import Derived.Test.YtdojdjafleaedaaTB
import Derived.Lib.ItoaNum
set_option linter.unusedVariables false
set_option linter.unusedSimpArgs false
namespace Go.Proofs.Ytdojdjafleaedaa.Pure
open Go.RowKit Go.Proofs.Ytdojdjafleaedaa.PAluHolds Go.Proofs.YtdojdjafleaedaaW.PrintWords Go.Proofs.YtdojdjafleaedaaW.PrintLast Go.Proofs.YtdojdjafleaedaaW.PrintMore Go.Proofs.Ytdojdjafleaedaa.HB Go.Proofs.Ytdojdjafleaedaa.TB

/-! ### Low bytes and signs -/
def lowOf (wide : Bool) (x : Int) : Int := if wide = true then x else x % 4294967296
def sgnOf (wide : Bool) (y : Int) : Int := if wide = true then wrap64 y else if y % 4294967296 ≥ 2147483648 then y % 4294967296 - 4294967296 else y % 4294967296
theorem lowOf_rg (wide : Bool) {x : Int} (h : 0 ≤ x ∧ x < 18446744073709551616) : 0 ≤ lowOf wide x ∧ lowOf wide x < 18446744073709551616 := by
  unfold lowOf
  cases wide <;> simp only [if_true, if_false, Bool.false_eq_true] <;> omega
theorem a_zext (wide : Bool) {x : Int} (h : 0 ≤ x ∧ x < 18446744073709551616) : words_Zext.f x (if wide = true then 8 else 4) = some (lowOf wide x) := by
  cases wide with
  | false =>
    have e : words_Zext.f x 4 = some (bits .and .u64 x 4294967295) := by kernel_rfl
    refine Eq.trans e (congrArg some ?_)
    rw [and_mask x 32 4294967295 (by decide) (by decide) h.1 h.2]
    rfl
  | true =>
    have e : words_Zext.f x 8 = some (bits .and .u64 x 18446744073709551615) := by kernel_rfl
    refine Eq.trans e (congrArg some ?_)
    rw [and_mask x 64 18446744073709551615 (by decide) (by decide) h.1 h.2]
    show x % 2 ^ 64 = x
    omega
theorem a_sext (wide : Bool) {y : Int} (h : 0 ≤ y ∧ y < 18446744073709551616) : ∃ s, words_Sext.f y (if wide = true then 8 else 4) = some s ∧ wrap64 s = sgnOf wide y := by
  cases wide with
  | false =>
    refine ⟨IntKind.u64.wrap (wrap64 (IntKind.u64.wrap (y * 4294967296)) / 4294967296), by kernel_rfl, ?_⟩
    unfold sgnOf
    rw [if_neg Bool.false_ne_true]
    simp only [IntKind.wrap_u64, wrap64]
    split <;> omega
  | true =>
    refine ⟨IntKind.u64.wrap (wrap64 (IntKind.u64.wrap (y * 1)) / 1), by kernel_rfl, ?_⟩
    unfold sgnOf
    rw [if_pos rfl]
    simp only [IntKind.wrap_u64, wrap64]
    omega
theorem a_cut (wide : Bool) {x : Int} (h : 0 ≤ x) : halberdref04_cut.f x wide = some (lowOf wide x) := by
  unfold halberdref04_cut.f lowOf
  cases wide with
  | false => rw [if_neg Bool.false_ne_true, if_neg Bool.false_ne_true, Int.tmod_eq_emod_of_nonneg h]
  | true => rw [if_pos rfl, if_pos rfl]
theorem a_signed (wide : Bool) {y : Int} (h : 0 ≤ y ∧ y < 18446744073709551616) : halberdref04_Signed.f 200 y wide = some (sgnOf wide y) := by
  unfold halberdref04_Signed.f sgnOf
  cases wide with
  | true => rw [if_pos rfl, if_pos rfl]
  | false =>
    rw [if_neg Bool.false_ne_true, if_neg Bool.false_ne_true]
    have e2 : halberdref01_Sext.f 200 y 4 = if Int.tmod y 4294967296 ≥ 2147483648 then some (IntKind.u64.wrap (Int.tmod y 4294967296 - 4294967296)) else some (Int.tmod y 4294967296) := by kernel_rfl
    rw [e2, Int.tmod_eq_emod_of_nonneg h.1]
    by_cases c : y % 4294967296 ≥ 2147483648
    · rw [if_pos c, if_pos c, Option.bind_some]
      congr 1
      simp only [IntKind.wrap_u64, wrap64]
      omega
    · rw [if_neg c, if_neg c, Option.bind_some]
      congr 1
      simp only [wrap64]
      omega
theorem holds_val (op : Int) (wide : Bool) {a b : Int} (ha : 0 ≤ a ∧ a < 18446744073709551616) (hb : 0 ≤ b ∧ b < 18446744073709551616) :
    alu_Holds.f op wide a b = match alu_cond.f op (lowOf wide a) (lowOf wide b) (sgnOf wide (lowOf wide a)) (sgnOf wide (lowOf wide b)) with | some r => some (r, true) | none => some (false, false) := by
  unfold alu_Holds.f
  obtain ⟨s, e1, e2⟩ := a_sext wide (lowOf_rg wide ha)
  obtain ⟨t, e3, e4⟩ := a_sext wide (lowOf_rg wide hb)
  rw [a_zext wide ha, Option.bind_some, a_zext wide hb, Option.bind_some, e1, Option.bind_some, e3, Option.bind_some, e2, e4]
  all_goals (cases alu_cond.f op (lowOf wide a) (lowOf wide b) (sgnOf wide (lowOf wide a)) (sgnOf wide (lowOf wide b)) <;> rfl)
theorem alu_alive : halberdlaw04_alive.f = some true := by kernel_rfl
theorem and_pos {x y : Int} (hx : 0 ≤ x ∧ x < 18446744073709551616) (hy : 0 ≤ y ∧ y < 18446744073709551616) : decide (Go.bits .and .u64 x y > 0) = (Go.bits .and .u64 x y != 0) := by
  obtain ⟨x, rfl⟩ := U_of hx.1 hx.2
  obtain ⟨y, rfl⟩ := U_of hy.1 hy.2
  rw [U_and]
  have := U_lo (x &&& y)
  generalize U (x &&& y) = z at *
  by_cases h : z = 0
  · subst h; rfl
  · rw [decide_eq_true (by omega), bne_iff_ne.2 h]
theorem refholds_val (op : Int) (wide : Bool) {a b : Int} (ha : 0 ≤ a ∧ a < 18446744073709551616) (hb : 0 ≤ b ∧ b < 18446744073709551616) :
    halberdref04_Holds.f 200 op wide a b = alu_Holds.f op wide a b := by
  rw [holds_val op wide ha hb]
  unfold halberdref04_Holds.f
  rw [a_cut wide ha.1, Option.bind_some, a_cut wide hb.1, Option.bind_some, a_signed wide (lowOf_rg wide ha), Option.bind_some, a_signed wide (lowOf_rg wide hb), Option.bind_some, and_pos (lowOf_rg wide ha) (lowOf_rg wide hb)]
  generalize lowOf wide a = x
  generalize lowOf wide b = y
  generalize sgnOf wide x = s
  generalize sgnOf wide y = t
  unfold alu_cond.f
  by_cases h0 : op = 16
  · subst h0; rfl
  by_cases h1 : op = 80
  · subst h1; rfl
  by_cases h2 : op = 32
  · subst h2; rfl
  by_cases h3 : op = 48
  · subst h3; rfl
  by_cases h4 : op = 160
  · subst h4; rfl
  by_cases h5 : op = 176
  · subst h5; rfl
  by_cases h6 : op = 96
  · subst h6; rfl
  by_cases h7 : op = 112
  · subst h7; rfl
  by_cases h8 : op = 192
  · subst h8; rfl
  by_cases h9 : op = 208
  · subst h9; rfl
  by_cases h10 : op = 64
  · subst h10; rfl
  simp only [h0, h1, h2, h3, h4, h5, h6, h7, h8, h9, h10, if_false]
theorem AluHolds : halberdlaw04_AluHolds.Pure := by
  intro op wide a b h0 h1 h2
  refine ⟨200, ?_⟩
  unfold halberdlaw04_AluHolds.f
  refine ask_ alu_alive ?_
  rw [refholds_val op wide (u64_of h1) (u64_of h2), holds_val op wide (u64_of h1) (u64_of h2)]
  cases alu_cond.f op (lowOf wide a) (lowOf wide b) (sgnOf wide (lowOf wide a)) (sgnOf wide (lowOf wide b)) <;> simp

end Go.Proofs.Ytdojdjafleaedaa.Pure
