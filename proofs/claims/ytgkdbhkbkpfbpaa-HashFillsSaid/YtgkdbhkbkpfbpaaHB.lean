/- Small facts on whole numbers of 64 bits, for the plain laws of this seat; no conditions. -/
import Derived.Laws.BitsAllLaws
import Derived.KernelRfl
import Derived.OpenShut
import Derived.Test.YtgkdbhkbkpfbpaaWMore
set_option linter.unusedVariables false
set_option linter.unusedSimpArgs false
namespace Go.Proofs.Ytgkdbhkbkpfbpaa.HB
open Go.RowKit Go.Proofs.YtgkdbhkbkpfbpaaW.PrintWords Go.Proofs.YtgkdbhkbkpfbpaaW.PrintLast Go.Proofs.YtgkdbhkbkpfbpaaW.PrintMore

theorem u64_of {a : Int} (h : (Lit.int .u64 a).wf = true) : 0 ≤ a ∧ a < 18446744073709551616 := by
  have := bounds_u64 h
  omega
theorem i64_of {a : Int} (h : (Lit.int .i64 a).wf = true) : -9223372036854775808 ≤ a ∧ a < 9223372036854775808 := by
  have := bounds_i64 h
  omega
theorem and_mask (x : Int) (n : Nat) (m : Int) (hm : m = 2 ^ n - 1) (hn : n ≤ 64) (h0 : 0 ≤ x) (h1 : x < 18446744073709551616) : bits .and .u64 x m = x % 2 ^ n := by
  have hp : (2 : Nat) ^ n ≤ 2 ^ 64 := Nat.pow_le_pow_right (by decide) hn
  have hp1 : 1 ≤ (2 : Nat) ^ n := Nat.one_le_two_pow
  have hmn : m = ((2 ^ n - 1 : Nat) : Int) := by
    rw [hm]
    have : ((2 ^ n : Nat) : Int) = (2 : Int) ^ n := by simp
    omega
  have hxn : x = (x.toNat : Int) := by omega
  rw [hmn, hxn, u64_and_nat _ _ (by omega) (by omega), Nat.and_two_pow_sub_one_eq_mod]
  simp
theorem wrap_u64_id {a : Int} (h0 : 0 ≤ a) (h1 : a < 18446744073709551616) : IntKind.u64.wrap a = a := by
  rw [IntKind.wrap_u64]; omega
theorem wrap64_id {a : Int} (h0 : -9223372036854775808 ≤ a) (h1 : a < 9223372036854775808) : wrap64 a = a := by
  unfold wrap64; omega
theorem ask_ {o : Option Bool} {a b : Option Bool} {r : Bool} (h : o = some true) (k : a = some r) : (o.bind fun t => if t = true then a else b) = some r := by
  rw [h]; exact k
theorem have_ {α β : Type} {o : Option α} {f : α → Option β} {v : α} {r : β} (h : o = some v) (k : f v = some r) : o.bind f = some r := by
  rw [h]; exact k
theorem yes_ {c : Prop} [Decidable c] {β : Type} {a b : Option β} {r : β} (h : c) (k : a = some r) : (if c then a else b) = some r := by
  rw [if_pos h]; exact k
theorem no_ {c : Prop} [Decidable c] {β : Type} {a b : Option β} {r : β} (h : ¬ c) (k : b = some r) : (if c then a else b) = some r := by
  rw [if_neg h]; exact k
end Go.Proofs.Ytgkdbhkbkpfbpaa.HB
