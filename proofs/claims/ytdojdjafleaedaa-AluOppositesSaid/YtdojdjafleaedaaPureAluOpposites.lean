/- Of a condition and its opposite just one holds: narrow or wide, for all numbers. -/
import Derived.Test.YtdojdjafleaedaaPAluOppositesx3
import Derived.Test.YtdojdjafleaedaaTB
import Derived.Lib.ItoaNum
set_option linter.unusedVariables false
set_option linter.unusedSimpArgs false
namespace Go.Proofs.Ytdojdjafleaedaa.Pure
open Go.RowKit Go.Proofs.Ytdojdjafleaedaa.PAluOpposites Go.Proofs.YtdojdjafleaedaaW.PrintWords Go.Proofs.YtdojdjafleaedaaW.PrintLast Go.Proofs.YtdojdjafleaedaaW.PrintMore Go.Proofs.Ytdojdjafleaedaa.HB Go.Proofs.Ytdojdjafleaedaa.TB

/-! ### Low bytes and signs -/
def lowOf (wide : Bool) (x : Int) : Int := if wide = true then x else x % 4294967296
def sgnOf (wide : Bool) (y : Int) : Int := if wide = true then wrap64 y else if y % 4294967296 ≥ 2147483648 then y % 4294967296 - 4294967296 else y % 4294967296
theorem lowOf_rg (wide : Bool) {x : Int} (h : 0 ≤ x ∧ x < 18446744073709551616) : 0 ≤ lowOf wide x ∧ lowOf wide x < 18446744073709551616 := by
  unfold lowOf
  cases wide <;> simp only [if_true, if_false, Bool.false_eq_true] <;> omega
theorem a_zext (wide : Bool) {x : Int} (h : 0 ≤ x ∧ x < 18446744073709551616) : words_Zext.f x (if wide = true then 8 else 4) = some (lowOf wide x) := by
  cases wide with
  | false =>
    have e : words_Zext.f x 4 = some (bits .and .u64 x 4294967295) := by kernel_rfl
    refine Eq.trans e (congrArg some ?_)
    rw [and_mask x 32 4294967295 (by decide) (by decide) h.1 h.2]
    rfl
  | true =>
    have e : words_Zext.f x 8 = some (bits .and .u64 x 18446744073709551615) := by kernel_rfl
    refine Eq.trans e (congrArg some ?_)
    rw [and_mask x 64 18446744073709551615 (by decide) (by decide) h.1 h.2]
    show x % 2 ^ 64 = x
    omega
theorem a_sext (wide : Bool) {y : Int} (h : 0 ≤ y ∧ y < 18446744073709551616) : ∃ s, words_Sext.f y (if wide = true then 8 else 4) = some s ∧ wrap64 s = sgnOf wide y := by
  cases wide with
  | false =>
    refine ⟨IntKind.u64.wrap (wrap64 (IntKind.u64.wrap (y * 4294967296)) / 4294967296), by kernel_rfl, ?_⟩
    unfold sgnOf
    rw [if_neg Bool.false_ne_true]
    simp only [IntKind.wrap_u64, wrap64]
    split <;> omega
  | true =>
    refine ⟨IntKind.u64.wrap (wrap64 (IntKind.u64.wrap (y * 1)) / 1), by kernel_rfl, ?_⟩
    unfold sgnOf
    rw [if_pos rfl]
    simp only [IntKind.wrap_u64, wrap64]
    omega
theorem holds_val (op : Int) (wide : Bool) {a b : Int} (ha : 0 ≤ a ∧ a < 18446744073709551616) (hb : 0 ≤ b ∧ b < 18446744073709551616) :
    alu_Holds.f op wide a b = match alu_cond.f op (lowOf wide a) (lowOf wide b) (sgnOf wide (lowOf wide a)) (sgnOf wide (lowOf wide b)) with | some r => some (r, true) | none => some (false, false) := by
  unfold alu_Holds.f
  obtain ⟨s, e1, e2⟩ := a_sext wide (lowOf_rg wide ha)
  obtain ⟨t, e3, e4⟩ := a_sext wide (lowOf_rg wide hb)
  rw [a_zext wide ha, Option.bind_some, a_zext wide hb, Option.bind_some, e1, Option.bind_some, e3, Option.bind_some, e2, e4]
  all_goals (cases alu_cond.f op (lowOf wide a) (lowOf wide b) (sgnOf wide (lowOf wide a)) (sgnOf wide (lowOf wide b)) <;> rfl)
theorem alu_alive : halberdlaw04_alive.f = some true := by kernel_rfl
theorem opp_step {p q a b : Int} {l : List (Int × Int)} {wide : Bool} {x y : Bool} (h1 : alu_Holds.f p wide a b = some (x, true)) (h2 : alu_Holds.f q wide a b = some (y, true)) (h : x ≠ y) (k : oppL l wide a b = some true) : oppL ((p, q) :: l) wide a b = some true := by
  rw [oppL, h1, Option.bind_some, h2, Option.bind_some, if_pos ⟨rfl, rfl, h⟩]
  exact k
theorem AluOpposites : halberdlaw04_AluOpposites.Pure := by
  intro wide a b h1 h2
  have ha := u64_of h1
  have hb := u64_of h2
  have hv := fun op => holds_val op wide ha hb
  unfold halberdlaw04_AluOpposites.f
  refine ask_ alu_alive ?_
  generalize lowOf wide a = x at hv
  generalize lowOf wide b = y at hv
  generalize sgnOf wide x = s at hv
  generalize sgnOf wide y = t at hv
  refine opp_step (hv 16) (hv 80) ?_ (opp_step (hv 32) (hv 176) ?_ (opp_step (hv 48) (hv 160) ?_ (opp_step (hv 96) (hv 208) ?_ (opp_step (hv 112) (hv 192) ?_ rfl))))
  · show (x == y) ≠ (x != y)
    cases h : x == y <;> simp [bne, h]
  · show decide (x > y) ≠ decide (x ≤ y)
    by_cases h : x > y
    · rw [decide_eq_true h, decide_eq_false (by omega)]; decide
    · rw [decide_eq_false h, decide_eq_true (by omega)]; decide
  · show decide (x ≥ y) ≠ decide (x < y)
    by_cases h : x ≥ y
    · rw [decide_eq_true h, decide_eq_false (by omega)]; decide
    · rw [decide_eq_false h, decide_eq_true (by omega)]; decide
  · show decide (s > t) ≠ decide (s ≤ t)
    by_cases h : s > t
    · rw [decide_eq_true h, decide_eq_false (by omega)]; decide
    · rw [decide_eq_false h, decide_eq_true (by omega)]; decide
  · show decide (s ≥ t) ≠ decide (s < t)
    by_cases h : s ≥ t
    · rw [decide_eq_true h, decide_eq_false (by omega)]; decide
    · rw [decide_eq_false h, decide_eq_true (by omega)]; decide

end Go.Proofs.Ytdojdjafleaedaa.Pure
