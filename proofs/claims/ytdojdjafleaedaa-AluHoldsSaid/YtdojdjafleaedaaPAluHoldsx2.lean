/- Functions of the program that some laws reach, as Lean functions, and proofs that the program's calls come to what they say: written by a program, for the texts that import it; each theorem bears its own conditions. -/
import Derived.Test.YtdojdjafleaedaaPAluHoldsx0
import Derived.Test.YtdojdjafleaedaaPAluHoldsx1
namespace Go.Proofs.Ytdojdjafleaedaa.PAluHolds
open Go.RowKit Go.Proofs.YtdojdjafleaedaaW.PrintWords Go.Proofs.YtdojdjafleaedaaW.PrintLast Go.Proofs.YtdojdjafleaedaaW.PrintMore
attribute [local go_sem] max2_int min2_int max_two min_two max_three min_three max_four min_four   -- for this text's walks alone
set_option linter.unusedVariables false
set_option linter.unusedSimpArgs false

/-! ### alu_Holds: function 16 -/
set_option maxHeartbeats 4000000 in
theorem alu_h0_calls (p q : Nat) (x y : Int) (w : World) (h1 : w.heap[p]? = some (.cells #[.int .u64 x] 22 (0, 0))) (h2 : w.heap[q]? = some (.cells #[.int .u64 y] 22 (0, 0))) : Calls Try.prog 42 #[.pointer (some ⟨p, 0, none⟩), .pointer (some ⟨q, 0, none⟩)] w fun e w' => e = .returned (.bool (x == y)) ∧ Below w.heap.size w w' := by
  have c1 : w.cell? ⟨p, 0, none⟩ = some (.int .u64 x) := (blk_cell h1 0).trans rfl
  have c2 : w.cell? ⟨q, 0, none⟩ = some (.int .u64 y) := (blk_cell h2 0).trans rfl
  go_enter Try.func42, Try.ntmps42
  go_wp2
  go_ret
  exact ⟨rfl, Below.refl _ _⟩
set_option maxHeartbeats 4000000 in
theorem alu_h1_calls (p q : Nat) (x y : Int) (w : World) (h1 : w.heap[p]? = some (.cells #[.int .u64 x] 22 (0, 0))) (h2 : w.heap[q]? = some (.cells #[.int .u64 y] 22 (0, 0))) : Calls Try.prog 43 #[.pointer (some ⟨p, 0, none⟩), .pointer (some ⟨q, 0, none⟩)] w fun e w' => e = .returned (.bool (x != y)) ∧ Below w.heap.size w w' := by
  have c1 : w.cell? ⟨p, 0, none⟩ = some (.int .u64 x) := (blk_cell h1 0).trans rfl
  have c2 : w.cell? ⟨q, 0, none⟩ = some (.int .u64 y) := (blk_cell h2 0).trans rfl
  go_enter Try.func43, Try.ntmps43
  go_wp2
  go_ret
  exact ⟨rfl, Below.refl _ _⟩
set_option maxHeartbeats 4000000 in
theorem alu_h2_calls (p q : Nat) (x y : Int) (w : World) (h1 : w.heap[p]? = some (.cells #[.int .u64 x] 22 (0, 0))) (h2 : w.heap[q]? = some (.cells #[.int .u64 y] 22 (0, 0))) : Calls Try.prog 44 #[.pointer (some ⟨p, 0, none⟩), .pointer (some ⟨q, 0, none⟩)] w fun e w' => e = .returned (.bool (decide (x > y))) ∧ Below w.heap.size w w' := by
  have c1 : w.cell? ⟨p, 0, none⟩ = some (.int .u64 x) := (blk_cell h1 0).trans rfl
  have c2 : w.cell? ⟨q, 0, none⟩ = some (.int .u64 y) := (blk_cell h2 0).trans rfl
  go_enter Try.func44, Try.ntmps44
  go_wp2
  go_ret
  exact ⟨rfl, Below.refl _ _⟩
set_option maxHeartbeats 4000000 in
theorem alu_h3_calls (p q : Nat) (x y : Int) (w : World) (h1 : w.heap[p]? = some (.cells #[.int .u64 x] 22 (0, 0))) (h2 : w.heap[q]? = some (.cells #[.int .u64 y] 22 (0, 0))) : Calls Try.prog 45 #[.pointer (some ⟨p, 0, none⟩), .pointer (some ⟨q, 0, none⟩)] w fun e w' => e = .returned (.bool (decide (x ≥ y))) ∧ Below w.heap.size w w' := by
  have c1 : w.cell? ⟨p, 0, none⟩ = some (.int .u64 x) := (blk_cell h1 0).trans rfl
  have c2 : w.cell? ⟨q, 0, none⟩ = some (.int .u64 y) := (blk_cell h2 0).trans rfl
  go_enter Try.func45, Try.ntmps45
  go_wp2
  go_ret
  exact ⟨rfl, Below.refl _ _⟩
set_option maxHeartbeats 4000000 in
theorem alu_h4_calls (p q : Nat) (x y : Int) (w : World) (h1 : w.heap[p]? = some (.cells #[.int .u64 x] 22 (0, 0))) (h2 : w.heap[q]? = some (.cells #[.int .u64 y] 22 (0, 0))) : Calls Try.prog 46 #[.pointer (some ⟨p, 0, none⟩), .pointer (some ⟨q, 0, none⟩)] w fun e w' => e = .returned (.bool (decide (x < y))) ∧ Below w.heap.size w w' := by
  have c1 : w.cell? ⟨p, 0, none⟩ = some (.int .u64 x) := (blk_cell h1 0).trans rfl
  have c2 : w.cell? ⟨q, 0, none⟩ = some (.int .u64 y) := (blk_cell h2 0).trans rfl
  go_enter Try.func46, Try.ntmps46
  go_wp2
  go_ret
  exact ⟨rfl, Below.refl _ _⟩
set_option maxHeartbeats 4000000 in
theorem alu_h5_calls (p q : Nat) (x y : Int) (w : World) (h1 : w.heap[p]? = some (.cells #[.int .u64 x] 22 (0, 0))) (h2 : w.heap[q]? = some (.cells #[.int .u64 y] 22 (0, 0))) : Calls Try.prog 47 #[.pointer (some ⟨p, 0, none⟩), .pointer (some ⟨q, 0, none⟩)] w fun e w' => e = .returned (.bool (decide (x ≤ y))) ∧ Below w.heap.size w w' := by
  have c1 : w.cell? ⟨p, 0, none⟩ = some (.int .u64 x) := (blk_cell h1 0).trans rfl
  have c2 : w.cell? ⟨q, 0, none⟩ = some (.int .u64 y) := (blk_cell h2 0).trans rfl
  go_enter Try.func47, Try.ntmps47
  go_wp2
  go_ret
  exact ⟨rfl, Below.refl _ _⟩
set_option maxHeartbeats 4000000 in
theorem alu_h6_calls (p q : Nat) (x y : Int) (w : World) (h1 : w.heap[p]? = some (.cells #[.int .i64 x] 2 (0, 0))) (h2 : w.heap[q]? = some (.cells #[.int .i64 y] 2 (0, 0))) : Calls Try.prog 48 #[.pointer (some ⟨p, 0, none⟩), .pointer (some ⟨q, 0, none⟩)] w fun e w' => e = .returned (.bool (decide (x > y))) ∧ Below w.heap.size w w' := by
  have c1 : w.cell? ⟨p, 0, none⟩ = some (.int .i64 x) := (blk_cell h1 0).trans rfl
  have c2 : w.cell? ⟨q, 0, none⟩ = some (.int .i64 y) := (blk_cell h2 0).trans rfl
  go_enter Try.func48, Try.ntmps48
  go_wp2
  go_ret
  exact ⟨rfl, Below.refl _ _⟩
set_option maxHeartbeats 4000000 in
theorem alu_h7_calls (p q : Nat) (x y : Int) (w : World) (h1 : w.heap[p]? = some (.cells #[.int .i64 x] 2 (0, 0))) (h2 : w.heap[q]? = some (.cells #[.int .i64 y] 2 (0, 0))) : Calls Try.prog 49 #[.pointer (some ⟨p, 0, none⟩), .pointer (some ⟨q, 0, none⟩)] w fun e w' => e = .returned (.bool (decide (x ≥ y))) ∧ Below w.heap.size w w' := by
  have c1 : w.cell? ⟨p, 0, none⟩ = some (.int .i64 x) := (blk_cell h1 0).trans rfl
  have c2 : w.cell? ⟨q, 0, none⟩ = some (.int .i64 y) := (blk_cell h2 0).trans rfl
  go_enter Try.func49, Try.ntmps49
  go_wp2
  go_ret
  exact ⟨rfl, Below.refl _ _⟩
set_option maxHeartbeats 4000000 in
theorem alu_h8_calls (p q : Nat) (x y : Int) (w : World) (h1 : w.heap[p]? = some (.cells #[.int .i64 x] 2 (0, 0))) (h2 : w.heap[q]? = some (.cells #[.int .i64 y] 2 (0, 0))) : Calls Try.prog 50 #[.pointer (some ⟨p, 0, none⟩), .pointer (some ⟨q, 0, none⟩)] w fun e w' => e = .returned (.bool (decide (x < y))) ∧ Below w.heap.size w w' := by
  have c1 : w.cell? ⟨p, 0, none⟩ = some (.int .i64 x) := (blk_cell h1 0).trans rfl
  have c2 : w.cell? ⟨q, 0, none⟩ = some (.int .i64 y) := (blk_cell h2 0).trans rfl
  go_enter Try.func50, Try.ntmps50
  go_wp2
  go_ret
  exact ⟨rfl, Below.refl _ _⟩
set_option maxHeartbeats 4000000 in
theorem alu_h9_calls (p q : Nat) (x y : Int) (w : World) (h1 : w.heap[p]? = some (.cells #[.int .i64 x] 2 (0, 0))) (h2 : w.heap[q]? = some (.cells #[.int .i64 y] 2 (0, 0))) : Calls Try.prog 51 #[.pointer (some ⟨p, 0, none⟩), .pointer (some ⟨q, 0, none⟩)] w fun e w' => e = .returned (.bool (decide (x ≤ y))) ∧ Below w.heap.size w w' := by
  have c1 : w.cell? ⟨p, 0, none⟩ = some (.int .i64 x) := (blk_cell h1 0).trans rfl
  have c2 : w.cell? ⟨q, 0, none⟩ = some (.int .i64 y) := (blk_cell h2 0).trans rfl
  go_enter Try.func51, Try.ntmps51
  go_wp2
  go_ret
  exact ⟨rfl, Below.refl _ _⟩
set_option maxHeartbeats 4000000 in
theorem alu_h10_calls (p q : Nat) (x y : Int) (w : World) (h1 : w.heap[p]? = some (.cells #[.int .u64 x] 22 (0, 0))) (h2 : w.heap[q]? = some (.cells #[.int .u64 y] 22 (0, 0))) : Calls Try.prog 52 #[.pointer (some ⟨p, 0, none⟩), .pointer (some ⟨q, 0, none⟩)] w fun e w' => e = .returned (.bool (Go.bits .and .u64 x y != 0)) ∧ Below w.heap.size w w' := by
  have c1 : w.cell? ⟨p, 0, none⟩ = some (.int .u64 x) := (blk_cell h1 0).trans rfl
  have c2 : w.cell? ⟨q, 0, none⟩ = some (.int .u64 y) := (blk_cell h2 0).trans rfl
  go_enter Try.func52, Try.ntmps52
  go_wp2
  go_ret
  exact ⟨rfl, Below.refl _ _⟩
/-- The conditions, with what they have caught. -/
def alu_condMap (g6 g7 g11 g12 : Nat) : Array MapEntry := #[⟨.int .u8 16, .func (.func 42) #[] #[.pointer (some ⟨g6, 0, none⟩), .pointer (some ⟨g7, 0, none⟩)], 0⟩, ⟨.int .u8 80, .func (.func 43) #[] #[.pointer (some ⟨g6, 0, none⟩), .pointer (some ⟨g7, 0, none⟩)], 1⟩, ⟨.int .u8 32, .func (.func 44) #[] #[.pointer (some ⟨g6, 0, none⟩), .pointer (some ⟨g7, 0, none⟩)], 2⟩, ⟨.int .u8 48, .func (.func 45) #[] #[.pointer (some ⟨g6, 0, none⟩), .pointer (some ⟨g7, 0, none⟩)], 3⟩, ⟨.int .u8 160, .func (.func 46) #[] #[.pointer (some ⟨g6, 0, none⟩), .pointer (some ⟨g7, 0, none⟩)], 4⟩, ⟨.int .u8 176, .func (.func 47) #[] #[.pointer (some ⟨g6, 0, none⟩), .pointer (some ⟨g7, 0, none⟩)], 5⟩, ⟨.int .u8 96, .func (.func 48) #[] #[.pointer (some ⟨g11, 0, none⟩), .pointer (some ⟨g12, 0, none⟩)], 6⟩, ⟨.int .u8 112, .func (.func 49) #[] #[.pointer (some ⟨g11, 0, none⟩), .pointer (some ⟨g12, 0, none⟩)], 7⟩, ⟨.int .u8 192, .func (.func 50) #[] #[.pointer (some ⟨g11, 0, none⟩), .pointer (some ⟨g12, 0, none⟩)], 8⟩, ⟨.int .u8 208, .func (.func 51) #[] #[.pointer (some ⟨g11, 0, none⟩), .pointer (some ⟨g12, 0, none⟩)], 9⟩, ⟨.int .u8 64, .func (.func 52) #[] #[.pointer (some ⟨g6, 0, none⟩), .pointer (some ⟨g7, 0, none⟩)], 10⟩]
def alu_cond.f (op x y s t : Int) : Option Bool := if op = 16 then some (x == y) else (if op = 80 then some (x != y) else (if op = 32 then some (decide (x > y)) else (if op = 48 then some (decide (x ≥ y)) else (if op = 160 then some (decide (x < y)) else (if op = 176 then some (decide (x ≤ y)) else (if op = 96 then some (decide (s > t)) else (if op = 112 then some (decide (s ≥ t)) else (if op = 192 then some (decide (s < t)) else (if op = 208 then some (decide (s ≤ t)) else (if op = 64 then some (Go.bits .and .u64 x y != 0) else (none)))))))))))
theorem alu_cond_none {op x y s t : Int} (g6 g7 g11 g12 : Nat) (h : alu_cond.f op x y s t = none) : Instr.findNow (.int .u8) (.int .u8 op) (alu_condMap g6 g7 g11 g12).toList 0 = some none := by
  unfold alu_cond.f at h
  by_cases h0 : op = 16
  · rw [if_pos h0] at h; simp at h
  rw [if_neg h0] at h
  by_cases h1 : op = 80
  · rw [if_pos h1] at h; simp at h
  rw [if_neg h1] at h
  by_cases h2 : op = 32
  · rw [if_pos h2] at h; simp at h
  rw [if_neg h2] at h
  by_cases h3 : op = 48
  · rw [if_pos h3] at h; simp at h
  rw [if_neg h3] at h
  by_cases h4 : op = 160
  · rw [if_pos h4] at h; simp at h
  rw [if_neg h4] at h
  by_cases h5 : op = 176
  · rw [if_pos h5] at h; simp at h
  rw [if_neg h5] at h
  by_cases h6 : op = 96
  · rw [if_pos h6] at h; simp at h
  rw [if_neg h6] at h
  by_cases h7 : op = 112
  · rw [if_pos h7] at h; simp at h
  rw [if_neg h7] at h
  by_cases h8 : op = 192
  · rw [if_pos h8] at h; simp at h
  rw [if_neg h8] at h
  by_cases h9 : op = 208
  · rw [if_pos h9] at h; simp at h
  rw [if_neg h9] at h
  by_cases h10 : op = 64
  · rw [if_pos h10] at h; simp at h
  rw [if_neg h10] at h
  have e : ∀ n : Int, op ≠ n → (op == n) = false := fun n hn => beq_eq_false_iff_ne.2 hn
  simp [alu_condMap, Instr.findNow, Instr.sameNow, e _ h0, e _ h1, e _ h2, e _ h3, e _ h4, e _ h5, e _ h6, e _ h7, e _ h8, e _ h9, e _ h10]
theorem alu_cond_some {op x y s t : Int} {r : Bool} (g6 g7 g11 g12 : Nat) (h : alu_cond.f op x y s t = some r) : ∃ (i : Nat) (f : FuncId) (fn : Func) (cap : Array Value), Instr.findNow (.int .u8) (.int .u8 op) (alu_condMap g6 g7 g11 g12).toList 0 = some (some (i, .func (.func f) #[] cap)) ∧ Try.prog.funcs[f]? = some fn ∧ (fn.name == "runtime.NumGoroutine") = false ∧ fn.body.isSome = true ∧
    ∀ w : World, w.heap[g6]? = some (.cells #[.int .u64 x] 22 (0, 0)) → w.heap[g7]? = some (.cells #[.int .u64 y] 22 (0, 0)) → w.heap[g11]? = some (.cells #[.int .i64 s] 2 (0, 0)) → w.heap[g12]? = some (.cells #[.int .i64 t] 2 (0, 0)) → Calls Try.prog f cap w fun e w' => e = .returned (.bool r) ∧ Below w.heap.size w w' := by
  unfold alu_cond.f at h
  by_cases h0 : op = 16
  · subst h0
    rw [if_pos rfl] at h
    obtain rfl := Option.some.inj h
    exact ⟨0, 42, _, #[.pointer (some ⟨g6, 0, none⟩), .pointer (some ⟨g7, 0, none⟩)], by kernel_rfl, Try.func42, by kernel_rfl, rfl, fun w p q u v => alu_h0_calls g6 g7 x y w p q⟩
  by_cases h1 : op = 80
  · subst h1
    rw [if_neg (by decide)] at h
    rw [if_pos rfl] at h
    obtain rfl := Option.some.inj h
    exact ⟨1, 43, _, #[.pointer (some ⟨g6, 0, none⟩), .pointer (some ⟨g7, 0, none⟩)], by kernel_rfl, Try.func43, by kernel_rfl, rfl, fun w p q u v => alu_h1_calls g6 g7 x y w p q⟩
  by_cases h2 : op = 32
  · subst h2
    rw [if_neg (by decide), if_neg (by decide)] at h
    rw [if_pos rfl] at h
    obtain rfl := Option.some.inj h
    exact ⟨2, 44, _, #[.pointer (some ⟨g6, 0, none⟩), .pointer (some ⟨g7, 0, none⟩)], by kernel_rfl, Try.func44, by kernel_rfl, rfl, fun w p q u v => alu_h2_calls g6 g7 x y w p q⟩
  by_cases h3 : op = 48
  · subst h3
    rw [if_neg (by decide), if_neg (by decide), if_neg (by decide)] at h
    rw [if_pos rfl] at h
    obtain rfl := Option.some.inj h
    exact ⟨3, 45, _, #[.pointer (some ⟨g6, 0, none⟩), .pointer (some ⟨g7, 0, none⟩)], by kernel_rfl, Try.func45, by kernel_rfl, rfl, fun w p q u v => alu_h3_calls g6 g7 x y w p q⟩
  by_cases h4 : op = 160
  · subst h4
    rw [if_neg (by decide), if_neg (by decide), if_neg (by decide), if_neg (by decide)] at h
    rw [if_pos rfl] at h
    obtain rfl := Option.some.inj h
    exact ⟨4, 46, _, #[.pointer (some ⟨g6, 0, none⟩), .pointer (some ⟨g7, 0, none⟩)], by kernel_rfl, Try.func46, by kernel_rfl, rfl, fun w p q u v => alu_h4_calls g6 g7 x y w p q⟩
  by_cases h5 : op = 176
  · subst h5
    rw [if_neg (by decide), if_neg (by decide), if_neg (by decide), if_neg (by decide), if_neg (by decide)] at h
    rw [if_pos rfl] at h
    obtain rfl := Option.some.inj h
    exact ⟨5, 47, _, #[.pointer (some ⟨g6, 0, none⟩), .pointer (some ⟨g7, 0, none⟩)], by kernel_rfl, Try.func47, by kernel_rfl, rfl, fun w p q u v => alu_h5_calls g6 g7 x y w p q⟩
  by_cases h6 : op = 96
  · subst h6
    rw [if_neg (by decide), if_neg (by decide), if_neg (by decide), if_neg (by decide), if_neg (by decide), if_neg (by decide)] at h
    rw [if_pos rfl] at h
    obtain rfl := Option.some.inj h
    exact ⟨6, 48, _, #[.pointer (some ⟨g11, 0, none⟩), .pointer (some ⟨g12, 0, none⟩)], by kernel_rfl, Try.func48, by kernel_rfl, rfl, fun w p q u v => alu_h6_calls g11 g12 s t w u v⟩
  by_cases h7 : op = 112
  · subst h7
    rw [if_neg (by decide), if_neg (by decide), if_neg (by decide), if_neg (by decide), if_neg (by decide), if_neg (by decide), if_neg (by decide)] at h
    rw [if_pos rfl] at h
    obtain rfl := Option.some.inj h
    exact ⟨7, 49, _, #[.pointer (some ⟨g11, 0, none⟩), .pointer (some ⟨g12, 0, none⟩)], by kernel_rfl, Try.func49, by kernel_rfl, rfl, fun w p q u v => alu_h7_calls g11 g12 s t w u v⟩
  by_cases h8 : op = 192
  · subst h8
    rw [if_neg (by decide), if_neg (by decide), if_neg (by decide), if_neg (by decide), if_neg (by decide), if_neg (by decide), if_neg (by decide), if_neg (by decide)] at h
    rw [if_pos rfl] at h
    obtain rfl := Option.some.inj h
    exact ⟨8, 50, _, #[.pointer (some ⟨g11, 0, none⟩), .pointer (some ⟨g12, 0, none⟩)], by kernel_rfl, Try.func50, by kernel_rfl, rfl, fun w p q u v => alu_h8_calls g11 g12 s t w u v⟩
  by_cases h9 : op = 208
  · subst h9
    rw [if_neg (by decide), if_neg (by decide), if_neg (by decide), if_neg (by decide), if_neg (by decide), if_neg (by decide), if_neg (by decide), if_neg (by decide), if_neg (by decide)] at h
    rw [if_pos rfl] at h
    obtain rfl := Option.some.inj h
    exact ⟨9, 51, _, #[.pointer (some ⟨g11, 0, none⟩), .pointer (some ⟨g12, 0, none⟩)], by kernel_rfl, Try.func51, by kernel_rfl, rfl, fun w p q u v => alu_h9_calls g11 g12 s t w u v⟩
  by_cases h10 : op = 64
  · subst h10
    rw [if_neg (by decide), if_neg (by decide), if_neg (by decide), if_neg (by decide), if_neg (by decide), if_neg (by decide), if_neg (by decide), if_neg (by decide), if_neg (by decide), if_neg (by decide)] at h
    rw [if_pos rfl] at h
    obtain rfl := Option.some.inj h
    exact ⟨10, 52, _, #[.pointer (some ⟨g6, 0, none⟩), .pointer (some ⟨g7, 0, none⟩)], by kernel_rfl, Try.func52, by kernel_rfl, rfl, fun w p q u v => alu_h10_calls g6 g7 x y w p q⟩
  rw [if_neg h0, if_neg h1, if_neg h2, if_neg h3, if_neg h4, if_neg h5, if_neg h6, if_neg h7, if_neg h8, if_neg h9, if_neg h10] at h
  simp at h
def alu_Holds.f (a0 : Int) (a1 : Bool) (a2 : Int) (a3 : Int) : Option (Bool × Bool) := (words_Zext.f a2 (if a1 = true then 8 else 4)).bind fun x => (words_Zext.f a3 (if a1 = true then 8 else 4)).bind fun y => (words_Sext.f x (if a1 = true then 8 else 4)).bind fun s => (words_Sext.f y (if a1 = true then 8 else 4)).bind fun t => match alu_cond.f a0 x y (wrap64 s) (wrap64 t) with | some r => some (r, true) | none => some (false, false)
theorem gate_world {X : Exit → Act → World → Prop} {e : Exit} {a : Act} {Wo : World} (P1 : World → Prop) (h1 : P1 Wo) (hk : ∀ W, P1 W → X e a W) : X e a Wo := hk _ h1
section
variable {P : Program} {ops : Array Oper} {rest : List Oper} {o : Oper} {a : Act} {Q : Exit → Act → World → Prop}
theorem insert_event2 {W : World} (hgd : o.guard = none) {t kt et : TypeId} {m k x : Operand} (ho : o.op = .insert t m k x) {d : TypeDesc} {g c : Nat} {es : Array MapEntry} (ht : P.underlying t = some (.map kt et)) (hd : P.underlying kt = some d)
    (hm : a.eval m = .map (some g)) (hk : MapKept.IsKey d (a.eval k)) (hb : W.heap[g]? = some (.map es c)) (hf : Instr.findNow d (a.eval k) es.toList 0 = some none)
    (h : ∀ w1, w1.heap[g]? = some (.map (es.push { key := a.eval k, val := a.eval x, born := c }) (c + 1)) → (∀ B, B ≤ g → Below B W w1) → (∀ i, i ≠ g → w1.heap[i]? = W.heap[i]?) → wpList P ops Q rest (a.put o.dst undef) w1) : wpList P ops Q (o :: rest) a W := by
  refine wpList_plain hgd fun K hK => ?_
  unfold Oper.wp execOp
  rw [ho]
  simp only [hm, Sem.run_bind, run_update_new ht hd hk hb hf, Result.andThen]
  refine hK _ _ (h _ ?_ (fun B hB => below_obj hB _) (fun i hi => ?_))
  · have := blk_lt hb
    simp [this]
  · simp only [Array.getElem?_setIfInBounds]
    rw [if_neg (Ne.symm hi)]
end
set_option maxHeartbeats 16000000 in
set_option maxRecDepth 100000 in
theorem alu_Holds.calls (a0 : Int) (a1 : Bool) (a2 : Int) (a3 : Int) (r1 : Bool) (r2 : Bool) (w : World) (h : alu_Holds.f a0 a1 a2 a3 = some (r1, r2)) :
    Calls Try.prog 16 #[.int .u8 a0, .bool a1, .int .u64 a2, .int .u64 a3] w fun e w' => e = .returned (.tuple #[.bool r1, .bool r2]) ∧ Below w.heap.size w w' := by
  have hu := Try.underlying63
  have hu5 := Try.underlying5
  have HB := Aside0.mk (Below.refl w.heap.size w)
  unfold alu_Holds.f at h
  obtain ⟨x, hx, h⟩ := Option.bind_eq_some_iff.mp h
  obtain ⟨y, hy, h⟩ := Option.bind_eq_some_iff.mp h
  obtain ⟨s, hs, h⟩ := Option.bind_eq_some_iff.mp h
  obtain ⟨t, ht, h⟩ := Option.bind_eq_some_iff.mp h
  have HC := Aside0.mk h
  clear h
  cases a1
  case false =>
    replace hx := (show words_Zext.f a2 4 = some x from hx)
    replace hy := (show words_Zext.f a3 4 = some y from hy)
    replace hs := (show words_Sext.f x 4 = some s from hs)
    replace ht := (show words_Sext.f y 4 = some t from ht)
    have A1 := Aside0.mk hx
    have A2 := Aside0.mk hy
    have A3 := Aside0.mk hs
    have A4 := Aside0.mk ht
    clear hx hy hs ht
    go_enter Try.func16, Try.ntmps16
    go_wp2_with (first | ((with_reducible refine gate_dst (N := 6) rfl ?_); refine box_event ?hg (N := 6) ?hd (cs := #[.int .u64 a2]) (t := 22) ?hr ?_; (case hd => rfl); (case hg => rfl); (case hr => first | (go_simp; done) | (go_simp; rfl)); intro g6 hg wb hx hb; have GE6 : Aside0 (w.heap.size ≤ g6) := ⟨by rw [hg]; exact HB.out.size⟩; have n0_ := Aside0.mk (below_step HB.out hb); have BK6 := Aside0.mk hx; clear HB hx hb hg; have HB := n0_; clear n0_) | ((with_reducible refine gate_dst (N := 7) rfl ?_); refine box_event ?hg (N := 7) ?hd (cs := #[.int .u64 a3]) (t := 22) ?hr ?_; (case hd => rfl); (case hg => rfl); (case hr => first | (go_simp; done) | (go_simp; rfl)); intro g7 hg wb hx hb; have GE7 : Aside0 (w.heap.size ≤ g7) := ⟨by rw [hg]; exact HB.out.size⟩; have NE67 : Aside0 (g6 ≠ g7) := ⟨by have := blk_lt BK6.out; omega⟩; have n6_ := Aside0.mk (blk_below BK6.out hb); clear BK6; have BK6 := n6_; clear n6_; have n0_ := Aside0.mk (below_step HB.out hb); have BK7 := Aside0.mk hx; clear HB hx hb hg; have HB := n0_; clear n0_))
    refine start_ (n := 8) (S := fun w' => w'.cell? ⟨g6, 0, none⟩ = some (.int .u64 a2) ∧ w'.cell? ⟨g7, 0, none⟩ = some (.int .u64 a3)) (ds := [6, 7]) #[false, false, false, false, false, false, false, false] (by kernel_rfl) rfl rfl ⟨(blk_cell (blk_drew BK6.out) 0).trans rfl, (blk_cell (blk_drew BK7.out) 0).trans rfl⟩ (fun hHeld => ?_)
    have n6_ := Aside0.mk (blk_drew BK6.out)
    have n7_ := Aside0.mk (blk_drew BK7.out)
    have nB_ := Aside0.mk (below_drew1 HB.out)
    clear BK6 BK7 HB
    have BK6 := n6_
    have BK7 := n7_
    have HB := nB_
    clear n6_ n7_ nB_
    generalize World.drew _ = wr4 at BK6 BK7 HB hHeld ⊢
    refine pure_ (i := 1) (N := some 18) (v := ?_) (a' := ?_) #[false, true, false, false, false, false, false, false] rfl rfl (by kernel_rfl) (fun _ _ _ h => h) (Or.inl ⟨by rfl, ?_⟩) ?_ ?_
    rotate_left
    · intro w'
      go_simp
      with_reducible rfl
    rotate_left
    · simp only [Act.put, List.setIfInBounds_toArray, List.set_cons_zero, List.set_cons_succ, i64_w, i32_w]
      rfl
    refine pure_ (i := 4) (N := some 21) (v := ?_) (a' := ?_) #[false, true, false, false, true, false, false, false] rfl rfl (by kernel_rfl) (fun _ _ _ h => h) (Or.inl ⟨by rfl, ?_⟩) ?_ ?_
    rotate_left
    · intro w'
      go_simp
      with_reducible rfl
    rotate_left
    · simp only [Act.put, List.setIfInBounds_toArray, List.set_cons_zero, List.set_cons_succ, i64_w, i32_w]
      rfl
    refine take_ (i := 0) (N := some 17) (v := ?_) (a' := ?_) #[true, true, false, false, true, false, false, false] rfl rfl (by kernel_rfl) (fun _ _ _ h => h) (Or.inl ⟨by rfl, ?_⟩) hHeld ?_ ?_
    rotate_left
    · rintro w' ⟨s0, s1⟩
      go_simp
      with_reducible rfl
    rotate_left
    · simp only [Act.put, List.setIfInBounds_toArray, List.set_cons_zero, List.set_cons_succ, i64_w, i32_w]
      rfl
    refine take_ (i := 3) (N := some 20) (v := ?_) (a' := ?_) #[true, true, false, true, true, false, false, false] rfl rfl (by kernel_rfl) (fun _ _ _ h => h) (Or.inl ⟨by rfl, ?_⟩) hHeld ?_ ?_
    rotate_left
    · rintro w' ⟨s0, s1⟩
      go_simp
      with_reducible rfl
    rotate_left
    · simp only [Act.put, List.setIfInBounds_toArray, List.set_cons_zero, List.set_cons_succ, i64_w, i32_w]
      rfl
    refine one_ (i := 2) (N := some 19) #[true, true, true, true, true, false, false, false] rfl rfl (by kernel_rfl) (by decide) (fun K hK => ?_)
    refine goes_ Try.func36 (by kernel_rfl) rfl #[.int .u64 a2, .int .i64 4] (by rfl) rfl rfl (by (try simp only [List.map_toArray, List.map_cons, List.map_nil]); first | done | rfl) ?_
    with_reducible refine (words_Zext.calls a2 4 x _ A1.out).mono ?_
    rintro e wd ⟨rfl, hd⟩
    refine ⟨_, rfl, ?_⟩
    have hb := Drawn0.below hd
    clear hd
    have n6_ := Aside0.mk (blk_below BK6.out hb)
    have n7_ := Aside0.mk (blk_below BK7.out hb)
    have nB_ := Aside0.mk (below_step HB.out hb)
    clear BK6 BK7 HB
    have BK6 := n6_
    have BK7 := n7_
    have HB := nB_
    clear n6_ n7_ nB_
    clear hb
    refine hK.out _ _ ⟨(blk_cell BK6.out 0).trans rfl, (blk_cell BK7.out 0).trans rfl⟩ (fun hHeld => ?_)
    clear hK K
    refine norm_ (a' := ?_) ?_ ?_
    rotate_left
    · show Act.put _ (some 19) _ = _
      simp only [Act.put, List.setIfInBounds_toArray, List.set_cons_zero, List.set_cons_succ, i64_w, i32_w]
      rfl
    refine one_ (i := 5) (N := some 22) #[true, true, true, true, true, true, false, false] rfl rfl (by kernel_rfl) (by decide) (fun K hK => ?_)
    refine goes_ Try.func36 (by kernel_rfl) rfl #[.int .u64 a3, .int .i64 4] (by rfl) rfl rfl (by (try simp only [List.map_toArray, List.map_cons, List.map_nil]); first | done | rfl) ?_
    with_reducible refine (words_Zext.calls a3 4 y _ A2.out).mono ?_
    rintro e wd ⟨rfl, hd⟩
    refine ⟨_, rfl, ?_⟩
    have hb := Drawn0.below hd
    clear hd
    have n6_ := Aside0.mk (blk_below BK6.out hb)
    have n7_ := Aside0.mk (blk_below BK7.out hb)
    have nB_ := Aside0.mk (below_step HB.out hb)
    clear BK6 BK7 HB
    have BK6 := n6_
    have BK7 := n7_
    have HB := nB_
    clear n6_ n7_ nB_
    clear hb
    refine hK.out _ _ ⟨(blk_cell BK6.out 0).trans rfl, (blk_cell BK7.out 0).trans rfl⟩ (fun hHeld => ?_)
    clear hK K
    refine norm_ (a' := ?_) ?_ ?_
    rotate_left
    · show Act.put _ (some 22) _ = _
      simp only [Act.put, List.setIfInBounds_toArray, List.set_cons_zero, List.set_cons_succ, i64_w, i32_w]
      rfl
    have e6 := hHeld.1
    have e7 := hHeld.2
    have z6 := blk_frozen BK6.out 0
    have z7 := blk_frozen BK7.out 0
    have q67 := NE67.out
    have q76 := NE67.out.symm
    refine last_ (i := 6) (N := none) #[true, true, true, true, true, true, true, false] rfl rfl (by kernel_rfl) (by decide) (fun K hK => ?_)
    refine skip_ (w1 := ?_) (by rfl) rfl ?_ ?_
    rotate_left
    · go_simp
      rfl
    refine hK.out _ _ ?_
    clear hK K
    refine last_ (i := 7) (N := none) #[true, true, true, true, true, true, true, true] rfl rfl (by kernel_rfl) (by decide) (fun K hK => ?_)
    refine skip_ (w1 := ?_) (by rfl) rfl ?_ ?_
    rotate_left
    · go_simp
      rfl
    refine hK.out _ _ ?_
    clear hK K
    refine done_ (by kernel_rfl) ?_
    clear e6 e7 z6 z7 hHeld
    refine gate_world (fun W : World => W.heap[g6]? = some (.cells #[.int .u64 x] 22 (0, 0)) ∧ W.heap[g7]? = some (.cells #[.int .u64 y] 22 (0, 0)) ∧ Below w.heap.size w W) ⟨blk_far (blk_put (cs := #[.int .u64 a2]) BK6.out 0 _ rfl) q67 _, blk_put (cs := #[.int .u64 a3]) (blk_far BK7.out q76 _) 0 _ rfl, below_set (below_set HB.out GE6.out) GE7.out⟩ ?_
    rintro wr5 ⟨x6_, x7_, xb_⟩
    clear BK6 BK7 HB q67 q76
    have BK6 := Aside0.mk x6_
    have BK7 := Aside0.mk x7_
    have HB := Aside0.mk xb_
    clear x6_ x7_ xb_
    go_wp2
    refine start_ (n := 12) (S := fun w' => w'.cell? ⟨g6, 0, none⟩ = some (.int .u64 x) ∧ w'.cell? ⟨g7, 0, none⟩ = some (.int .u64 y)) (ds := [10, 11]) #[false, false, false, false, false, false, false, false, false, false, false, false] (by kernel_rfl) rfl rfl ⟨(blk_cell (blk_drew BK6.out) 0).trans rfl, (blk_cell (blk_drew BK7.out) 0).trans rfl⟩ (fun hHeld => ?_)
    have n6_ := Aside0.mk (blk_drew BK6.out)
    have n7_ := Aside0.mk (blk_drew BK7.out)
    have nB_ := Aside0.mk (below_drew1 HB.out)
    clear BK6 BK7 HB
    have BK6 := n6_
    have BK7 := n7_
    have HB := nB_
    clear n6_ n7_ nB_
    generalize World.drew _ = wr6 at BK6 BK7 HB hHeld ⊢
    refine pure_ (i := 1) (N := some 24) (v := ?_) (a' := ?_) #[false, true, false, false, false, false, false, false, false, false, false, false] rfl rfl (by kernel_rfl) (fun _ _ _ h => h) (Or.inl ⟨by rfl, ?_⟩) ?_ ?_
    rotate_left
    · intro w'
      go_simp
      with_reducible rfl
    rotate_left
    · simp only [Act.put, List.setIfInBounds_toArray, List.set_cons_zero, List.set_cons_succ, i64_w, i32_w]
      rfl
    refine pure_ (i := 5) (N := some 28) (v := ?_) (a' := ?_) #[false, true, false, false, false, true, false, false, false, false, false, false] rfl rfl (by kernel_rfl) (fun _ _ _ h => h) (Or.inl ⟨by rfl, ?_⟩) ?_ ?_
    rotate_left
    · intro w'
      go_simp
      with_reducible rfl
    rotate_left
    · simp only [Act.put, List.setIfInBounds_toArray, List.set_cons_zero, List.set_cons_succ, i64_w, i32_w]
      rfl
    refine take_ (i := 0) (N := some 23) (v := ?_) (a' := ?_) #[true, true, false, false, false, true, false, false, false, false, false, false] rfl rfl (by kernel_rfl) (fun _ _ _ h => h) (Or.inl ⟨by rfl, ?_⟩) hHeld ?_ ?_
    rotate_left
    · rintro w' ⟨s0, s1⟩
      go_simp
      with_reducible rfl
    rotate_left
    · simp only [Act.put, List.setIfInBounds_toArray, List.set_cons_zero, List.set_cons_succ, i64_w, i32_w]
      rfl
    refine take_ (i := 4) (N := some 27) (v := ?_) (a' := ?_) #[true, true, false, false, true, true, false, false, false, false, false, false] rfl rfl (by kernel_rfl) (fun _ _ _ h => h) (Or.inl ⟨by rfl, ?_⟩) hHeld ?_ ?_
    rotate_left
    · rintro w' ⟨s0, s1⟩
      go_simp
      with_reducible rfl
    rotate_left
    · simp only [Act.put, List.setIfInBounds_toArray, List.set_cons_zero, List.set_cons_succ, i64_w, i32_w]
      rfl
    refine join_ (σ := Nat × Nat) 2 #[true, true, true, true, true, true, true, true, true, true, false, false] (fun s_ => [(25, .int .u64 s), (29, .int .u64 t), (26, .int .i64 (wrap64 s)), (30, .int .i64 (wrap64 t)), (11, .pointer (some ⟨s_.1, 0, none⟩)), (12, .pointer (some ⟨s_.2, 0, none⟩))]) (fun s_ w' => w'.heap[g6]? = some (.cells #[.int .u64 x] 22 (0, 0)) ∧ w'.heap[g7]? = some (.cells #[.int .u64 y] 22 (0, 0)) ∧ w'.heap[s_.1]? = some (.cells #[.int .i64 0] 2 (0, 0)) ∧ w'.heap[s_.2]? = some (.cells #[.int .i64 0] 2 (0, 0)) ∧ s_.1 ≠ s_.2 ∧ w.heap.size ≤ s_.1 ∧ w.heap.size ≤ s_.2 ∧ (g6 < s_.1 ∧ g7 < s_.1) ∧ (g6 < s_.2 ∧ g7 < s_.2) ∧ Below w.heap.size w w') ?_ ?_
    rotate_left
    · intro hCont
      refine three_ (i := 2) (j := 8) (k := 9) (Ni := some 25) (Nj := some 11) (Nk := some 12) #[true, true, true, false, true, true, false, false, false, false, false, false] #[true, true, false, false, true, true, false, false, true, false, false, false] #[true, true, false, false, true, true, false, false, false, true, false, false] rfl rfl rfl rfl rfl rfl (by kernel_rfl) (by decide) (by decide) (by decide) (fun K hK => ?_) (fun K hK => ?_) (fun K hK => ?_)
      · skip
        refine goes_ Try.func41 (by kernel_rfl) rfl #[.int .u64 x, .int .i64 4] (by rfl) rfl rfl (by (try simp only [List.map_toArray, List.map_cons, List.map_nil]); first | done | rfl) ?_
        with_reducible refine (words_Sext.calls x 4 s _ A3.out).mono ?_
        rintro e wd ⟨rfl, hd⟩
        refine ⟨_, rfl, ?_⟩
        have hb := Drawn0.below hd
        clear hd
        have n6_ := Aside0.mk (blk_below BK6.out hb)
        have n7_ := Aside0.mk (blk_below BK7.out hb)
        have nB_ := Aside0.mk (below_step HB.out hb)
        clear BK6 BK7 HB
        have BK6 := n6_
        have BK7 := n7_
        have HB := nB_
        clear n6_ n7_ nB_
        clear hb
        refine hK.out _ _ ⟨(blk_cell BK6.out 0).trans rfl, (blk_cell BK7.out 0).trans rfl⟩ (fun hHeld => ?_)
        clear hK K
        refine norm_ (a' := ?_) ?_ ?_
        rotate_left
        · show Act.put _ (some 25) _ = _
          simp only [Act.put, List.setIfInBounds_toArray, List.set_cons_zero, List.set_cons_succ, i64_w, i32_w]
          rfl
        refine pure_ (i := 3) (N := some 26) (v := ?_) (a' := ?_) #[true, true, true, true, true, true, false, false, false, false, false, false] rfl rfl (by kernel_rfl) (fun _ _ _ h => h) (Or.inl ⟨by rfl, ?_⟩) ?_ ?_
        rotate_left
        · intro w'
          go_simp
          with_reducible rfl
        rotate_left
        · simp only [Act.put, List.setIfInBounds_toArray, List.set_cons_zero, List.set_cons_succ, i64_w, i32_w]
          rfl
        refine three_ (i := 6) (j := 8) (k := 9) (Ni := some 29) (Nj := some 11) (Nk := some 12) #[true, true, true, true, true, true, true, false, false, false, false, false] #[true, true, true, true, true, true, false, false, true, false, false, false] #[true, true, true, true, true, true, false, false, false, true, false, false] rfl rfl rfl rfl rfl rfl (by kernel_rfl) (by decide) (by decide) (by decide) (fun K hK => ?_) (fun K hK => ?_) (fun K hK => ?_)
        · skip
          refine goes_ Try.func41 (by kernel_rfl) rfl #[.int .u64 y, .int .i64 4] (by rfl) rfl rfl (by (try simp only [List.map_toArray, List.map_cons, List.map_nil]); first | done | rfl) ?_
          with_reducible refine (words_Sext.calls y 4 t _ A4.out).mono ?_
          rintro e wd ⟨rfl, hd⟩
          refine ⟨_, rfl, ?_⟩
          have hb := Drawn0.below hd
          clear hd
          have n6_ := Aside0.mk (blk_below BK6.out hb)
          have n7_ := Aside0.mk (blk_below BK7.out hb)
          have nB_ := Aside0.mk (below_step HB.out hb)
          clear BK6 BK7 HB
          have BK6 := n6_
          have BK7 := n7_
          have HB := nB_
          clear n6_ n7_ nB_
          clear hb
          refine hK.out _ _ ⟨(blk_cell BK6.out 0).trans rfl, (blk_cell BK7.out 0).trans rfl⟩ (fun hHeld => ?_)
          clear hK K
          refine norm_ (a' := ?_) ?_ ?_
          rotate_left
          · show Act.put _ (some 29) _ = _
            simp only [Act.put, List.setIfInBounds_toArray, List.set_cons_zero, List.set_cons_succ, i64_w, i32_w]
            rfl
          refine pure_ (i := 7) (N := some 30) (v := ?_) (a' := ?_) #[true, true, true, true, true, true, true, true, false, false, false, false] rfl rfl (by kernel_rfl) (fun _ _ _ h => h) (Or.inl ⟨by rfl, ?_⟩) ?_ ?_
          rotate_left
          · intro w'
            go_simp
            with_reducible rfl
          rotate_left
          · simp only [Act.put, List.setIfInBounds_toArray, List.set_cons_zero, List.set_cons_succ, i64_w, i32_w]
            rfl
          refine two_ (i := 8) (j := 9) (Ni := some 11) (Nj := some 12) #[true, true, true, true, true, true, true, true, true, false, false, false] #[true, true, true, true, true, true, true, true, false, true, false, false] rfl rfl rfl rfl (by kernel_rfl) (by decide) (by decide) (fun K hK => ?_) (fun K hK => ?_)
          · skip
            refine box_step (by rfl) (N := 11) rfl (cs := #[.int .i64 0]) (t := 2) (by first | (go_simp; done) | (go_simp; rfl)) ?_
            intro g11 hg wd hx hb
            have GE11 : Aside0 (w.heap.size ≤ g11) := ⟨by rw [hg]; exact HB.out.size⟩
            have LT11 : Aside0 (g6 < g11 ∧ g7 < g11) := ⟨by have p6_ := blk_lt BK6.out; have p7_ := blk_lt BK7.out; omega⟩
            have n6_ := Aside0.mk (blk_below BK6.out hb)
            have n7_ := Aside0.mk (blk_below BK7.out hb)
            have nB_ := Aside0.mk (below_step HB.out hb)
            clear BK6 BK7 HB
            have BK6 := n6_
            have BK7 := n7_
            have HB := nB_
            clear n6_ n7_ nB_
            have BK11 := Aside0.mk hx
            clear hb hx hg
            refine hK.out _ _ ⟨(blk_cell BK6.out 0).trans rfl, (blk_cell BK7.out 0).trans rfl⟩ (fun hHeld => ?_)
            clear hK K
            refine norm_ (a' := ?_) ?_ ?_
            rotate_left
            · show Act.put _ (some 11) _ = _
              simp only [Act.put, List.setIfInBounds_toArray, List.set_cons_zero, List.set_cons_succ, i64_w, i32_w]
              rfl
            refine one_ (i := 9) (N := some 12) #[true, true, true, true, true, true, true, true, true, true, false, false] rfl rfl (by kernel_rfl) (by decide) (fun K hK => ?_)
            refine box_step (by rfl) (N := 12) rfl (cs := #[.int .i64 0]) (t := 2) (by first | (go_simp; done) | (go_simp; rfl)) ?_
            intro g12 hg wd hx hb
            have NEQ : Aside0 (g11 ≠ g12) := ⟨by have := blk_lt BK11.out; omega⟩
            have GE12 : Aside0 (w.heap.size ≤ g12) := ⟨by rw [hg]; exact HB.out.size⟩
            have LT12 : Aside0 (g6 < g12 ∧ g7 < g12) := ⟨by have p6_ := blk_lt BK6.out; have p7_ := blk_lt BK7.out; omega⟩
            have n6_ := Aside0.mk (blk_below BK6.out hb)
            have n7_ := Aside0.mk (blk_below BK7.out hb)
            have n11_ := Aside0.mk (blk_below BK11.out hb)
            have nB_ := Aside0.mk (below_step HB.out hb)
            clear BK6 BK7 BK11 HB
            have BK6 := n6_
            have BK7 := n7_
            have BK11 := n11_
            have HB := nB_
            clear n6_ n7_ n11_ nB_
            have BK12 := Aside0.mk hx
            clear hb hx hg
            refine hK.out _ _ ⟨(blk_cell BK6.out 0).trans rfl, (blk_cell BK7.out 0).trans rfl⟩ (fun hHeld => ?_)
            clear hK K
            refine norm_ (a' := ?_) ?_ ?_
            rotate_left
            · show Act.put _ (some 12) _ = _
              simp only [Act.put, List.setIfInBounds_toArray, List.set_cons_zero, List.set_cons_succ, i64_w, i32_w]
              rfl
            exact norm_ (by simp only [putAll, Act.put, List.setIfInBounds_toArray, List.set_cons_zero, List.set_cons_succ]) (hCont (g11, g12) _ ⟨BK6.out, BK7.out, BK11.out, BK12.out, NEQ.out, GE11.out, GE12.out, LT11.out, LT12.out, HB.out⟩)
          · skip
            refine box_step (by rfl) (N := 12) rfl (cs := #[.int .i64 0]) (t := 2) (by first | (go_simp; done) | (go_simp; rfl)) ?_
            intro g12 hg wd hx hb
            have GE12 : Aside0 (w.heap.size ≤ g12) := ⟨by rw [hg]; exact HB.out.size⟩
            have LT12 : Aside0 (g6 < g12 ∧ g7 < g12) := ⟨by have p6_ := blk_lt BK6.out; have p7_ := blk_lt BK7.out; omega⟩
            have n6_ := Aside0.mk (blk_below BK6.out hb)
            have n7_ := Aside0.mk (blk_below BK7.out hb)
            have nB_ := Aside0.mk (below_step HB.out hb)
            clear BK6 BK7 HB
            have BK6 := n6_
            have BK7 := n7_
            have HB := nB_
            clear n6_ n7_ nB_
            have BK12 := Aside0.mk hx
            clear hb hx hg
            refine hK.out _ _ ⟨(blk_cell BK6.out 0).trans rfl, (blk_cell BK7.out 0).trans rfl⟩ (fun hHeld => ?_)
            clear hK K
            refine norm_ (a' := ?_) ?_ ?_
            rotate_left
            · show Act.put _ (some 12) _ = _
              simp only [Act.put, List.setIfInBounds_toArray, List.set_cons_zero, List.set_cons_succ, i64_w, i32_w]
              rfl
            refine one_ (i := 8) (N := some 11) #[true, true, true, true, true, true, true, true, true, true, false, false] rfl rfl (by kernel_rfl) (by decide) (fun K hK => ?_)
            refine box_step (by rfl) (N := 11) rfl (cs := #[.int .i64 0]) (t := 2) (by first | (go_simp; done) | (go_simp; rfl)) ?_
            intro g11 hg wd hx hb
            have NEQ : Aside0 (g11 ≠ g12) := ⟨by have := blk_lt BK12.out; omega⟩
            have GE11 : Aside0 (w.heap.size ≤ g11) := ⟨by rw [hg]; exact HB.out.size⟩
            have LT11 : Aside0 (g6 < g11 ∧ g7 < g11) := ⟨by have p6_ := blk_lt BK6.out; have p7_ := blk_lt BK7.out; omega⟩
            have n6_ := Aside0.mk (blk_below BK6.out hb)
            have n7_ := Aside0.mk (blk_below BK7.out hb)
            have n12_ := Aside0.mk (blk_below BK12.out hb)
            have nB_ := Aside0.mk (below_step HB.out hb)
            clear BK6 BK7 BK12 HB
            have BK6 := n6_
            have BK7 := n7_
            have BK12 := n12_
            have HB := nB_
            clear n6_ n7_ n12_ nB_
            have BK11 := Aside0.mk hx
            clear hb hx hg
            refine hK.out _ _ ⟨(blk_cell BK6.out 0).trans rfl, (blk_cell BK7.out 0).trans rfl⟩ (fun hHeld => ?_)
            clear hK K
            refine norm_ (a' := ?_) ?_ ?_
            rotate_left
            · show Act.put _ (some 11) _ = _
              simp only [Act.put, List.setIfInBounds_toArray, List.set_cons_zero, List.set_cons_succ, i64_w, i32_w]
              rfl
            exact norm_ (by simp only [putAll, Act.put, List.setIfInBounds_toArray, List.set_cons_zero, List.set_cons_succ]) (hCont (g11, g12) _ ⟨BK6.out, BK7.out, BK11.out, BK12.out, NEQ.out, GE11.out, GE12.out, LT11.out, LT12.out, HB.out⟩)
        · skip
          refine box_step (by rfl) (N := 11) rfl (cs := #[.int .i64 0]) (t := 2) (by first | (go_simp; done) | (go_simp; rfl)) ?_
          intro g11 hg wd hx hb
          have GE11 : Aside0 (w.heap.size ≤ g11) := ⟨by rw [hg]; exact HB.out.size⟩
          have LT11 : Aside0 (g6 < g11 ∧ g7 < g11) := ⟨by have p6_ := blk_lt BK6.out; have p7_ := blk_lt BK7.out; omega⟩
          have n6_ := Aside0.mk (blk_below BK6.out hb)
          have n7_ := Aside0.mk (blk_below BK7.out hb)
          have nB_ := Aside0.mk (below_step HB.out hb)
          clear BK6 BK7 HB
          have BK6 := n6_
          have BK7 := n7_
          have HB := nB_
          clear n6_ n7_ nB_
          have BK11 := Aside0.mk hx
          clear hb hx hg
          refine hK.out _ _ ⟨(blk_cell BK6.out 0).trans rfl, (blk_cell BK7.out 0).trans rfl⟩ (fun hHeld => ?_)
          clear hK K
          refine norm_ (a' := ?_) ?_ ?_
          rotate_left
          · show Act.put _ (some 11) _ = _
            simp only [Act.put, List.setIfInBounds_toArray, List.set_cons_zero, List.set_cons_succ, i64_w, i32_w]
            rfl
          refine two_ (i := 6) (j := 9) (Ni := some 29) (Nj := some 12) #[true, true, true, true, true, true, true, false, true, false, false, false] #[true, true, true, true, true, true, false, false, true, true, false, false] rfl rfl rfl rfl (by kernel_rfl) (by decide) (by decide) (fun K hK => ?_) (fun K hK => ?_)
          · skip
            refine goes_ Try.func41 (by kernel_rfl) rfl #[.int .u64 y, .int .i64 4] (by rfl) rfl rfl (by (try simp only [List.map_toArray, List.map_cons, List.map_nil]); first | done | rfl) ?_
            with_reducible refine (words_Sext.calls y 4 t _ A4.out).mono ?_
            rintro e wd ⟨rfl, hd⟩
            refine ⟨_, rfl, ?_⟩
            have hb := Drawn0.below hd
            clear hd
            have n6_ := Aside0.mk (blk_below BK6.out hb)
            have n7_ := Aside0.mk (blk_below BK7.out hb)
            have n11_ := Aside0.mk (blk_below BK11.out hb)
            have nB_ := Aside0.mk (below_step HB.out hb)
            clear BK6 BK7 BK11 HB
            have BK6 := n6_
            have BK7 := n7_
            have BK11 := n11_
            have HB := nB_
            clear n6_ n7_ n11_ nB_
            clear hb
            refine hK.out _ _ ⟨(blk_cell BK6.out 0).trans rfl, (blk_cell BK7.out 0).trans rfl⟩ (fun hHeld => ?_)
            clear hK K
            refine norm_ (a' := ?_) ?_ ?_
            rotate_left
            · show Act.put _ (some 29) _ = _
              simp only [Act.put, List.setIfInBounds_toArray, List.set_cons_zero, List.set_cons_succ, i64_w, i32_w]
              rfl
            refine pure_ (i := 7) (N := some 30) (v := ?_) (a' := ?_) #[true, true, true, true, true, true, true, true, true, false, false, false] rfl rfl (by kernel_rfl) (fun _ _ _ h => h) (Or.inl ⟨by rfl, ?_⟩) ?_ ?_
            rotate_left
            · intro w'
              go_simp
              with_reducible rfl
            rotate_left
            · simp only [Act.put, List.setIfInBounds_toArray, List.set_cons_zero, List.set_cons_succ, i64_w, i32_w]
              rfl
            refine one_ (i := 9) (N := some 12) #[true, true, true, true, true, true, true, true, true, true, false, false] rfl rfl (by kernel_rfl) (by decide) (fun K hK => ?_)
            refine box_step (by rfl) (N := 12) rfl (cs := #[.int .i64 0]) (t := 2) (by first | (go_simp; done) | (go_simp; rfl)) ?_
            intro g12 hg wd hx hb
            have NEQ : Aside0 (g11 ≠ g12) := ⟨by have := blk_lt BK11.out; omega⟩
            have GE12 : Aside0 (w.heap.size ≤ g12) := ⟨by rw [hg]; exact HB.out.size⟩
            have LT12 : Aside0 (g6 < g12 ∧ g7 < g12) := ⟨by have p6_ := blk_lt BK6.out; have p7_ := blk_lt BK7.out; omega⟩
            have n6_ := Aside0.mk (blk_below BK6.out hb)
            have n7_ := Aside0.mk (blk_below BK7.out hb)
            have n11_ := Aside0.mk (blk_below BK11.out hb)
            have nB_ := Aside0.mk (below_step HB.out hb)
            clear BK6 BK7 BK11 HB
            have BK6 := n6_
            have BK7 := n7_
            have BK11 := n11_
            have HB := nB_
            clear n6_ n7_ n11_ nB_
            have BK12 := Aside0.mk hx
            clear hb hx hg
            refine hK.out _ _ ⟨(blk_cell BK6.out 0).trans rfl, (blk_cell BK7.out 0).trans rfl⟩ (fun hHeld => ?_)
            clear hK K
            refine norm_ (a' := ?_) ?_ ?_
            rotate_left
            · show Act.put _ (some 12) _ = _
              simp only [Act.put, List.setIfInBounds_toArray, List.set_cons_zero, List.set_cons_succ, i64_w, i32_w]
              rfl
            exact norm_ (by simp only [putAll, Act.put, List.setIfInBounds_toArray, List.set_cons_zero, List.set_cons_succ]) (hCont (g11, g12) _ ⟨BK6.out, BK7.out, BK11.out, BK12.out, NEQ.out, GE11.out, GE12.out, LT11.out, LT12.out, HB.out⟩)
          · skip
            refine box_step (by rfl) (N := 12) rfl (cs := #[.int .i64 0]) (t := 2) (by first | (go_simp; done) | (go_simp; rfl)) ?_
            intro g12 hg wd hx hb
            have NEQ : Aside0 (g11 ≠ g12) := ⟨by have := blk_lt BK11.out; omega⟩
            have GE12 : Aside0 (w.heap.size ≤ g12) := ⟨by rw [hg]; exact HB.out.size⟩
            have LT12 : Aside0 (g6 < g12 ∧ g7 < g12) := ⟨by have p6_ := blk_lt BK6.out; have p7_ := blk_lt BK7.out; omega⟩
            have n6_ := Aside0.mk (blk_below BK6.out hb)
            have n7_ := Aside0.mk (blk_below BK7.out hb)
            have n11_ := Aside0.mk (blk_below BK11.out hb)
            have nB_ := Aside0.mk (below_step HB.out hb)
            clear BK6 BK7 BK11 HB
            have BK6 := n6_
            have BK7 := n7_
            have BK11 := n11_
            have HB := nB_
            clear n6_ n7_ n11_ nB_
            have BK12 := Aside0.mk hx
            clear hb hx hg
            refine hK.out _ _ ⟨(blk_cell BK6.out 0).trans rfl, (blk_cell BK7.out 0).trans rfl⟩ (fun hHeld => ?_)
            clear hK K
            refine norm_ (a' := ?_) ?_ ?_
            rotate_left
            · show Act.put _ (some 12) _ = _
              simp only [Act.put, List.setIfInBounds_toArray, List.set_cons_zero, List.set_cons_succ, i64_w, i32_w]
              rfl
            refine one_ (i := 6) (N := some 29) #[true, true, true, true, true, true, true, false, true, true, false, false] rfl rfl (by kernel_rfl) (by decide) (fun K hK => ?_)
            refine goes_ Try.func41 (by kernel_rfl) rfl #[.int .u64 y, .int .i64 4] (by rfl) rfl rfl (by (try simp only [List.map_toArray, List.map_cons, List.map_nil]); first | done | rfl) ?_
            with_reducible refine (words_Sext.calls y 4 t _ A4.out).mono ?_
            rintro e wd ⟨rfl, hd⟩
            refine ⟨_, rfl, ?_⟩
            have hb := Drawn0.below hd
            clear hd
            have n6_ := Aside0.mk (blk_below BK6.out hb)
            have n7_ := Aside0.mk (blk_below BK7.out hb)
            have n11_ := Aside0.mk (blk_below BK11.out hb)
            have n12_ := Aside0.mk (blk_below BK12.out hb)
            have nB_ := Aside0.mk (below_step HB.out hb)
            clear BK6 BK7 BK11 BK12 HB
            have BK6 := n6_
            have BK7 := n7_
            have BK11 := n11_
            have BK12 := n12_
            have HB := nB_
            clear n6_ n7_ n11_ n12_ nB_
            clear hb
            refine hK.out _ _ ⟨(blk_cell BK6.out 0).trans rfl, (blk_cell BK7.out 0).trans rfl⟩ (fun hHeld => ?_)
            clear hK K
            refine norm_ (a' := ?_) ?_ ?_
            rotate_left
            · show Act.put _ (some 29) _ = _
              simp only [Act.put, List.setIfInBounds_toArray, List.set_cons_zero, List.set_cons_succ, i64_w, i32_w]
              rfl
            refine pure_ (i := 7) (N := some 30) (v := ?_) (a' := ?_) #[true, true, true, true, true, true, true, true, true, true, false, false] rfl rfl (by kernel_rfl) (fun _ _ _ h => h) (Or.inl ⟨by rfl, ?_⟩) ?_ ?_
            rotate_left
            · intro w'
              go_simp
              with_reducible rfl
            rotate_left
            · simp only [Act.put, List.setIfInBounds_toArray, List.set_cons_zero, List.set_cons_succ, i64_w, i32_w]
              rfl
            exact norm_ (by simp only [putAll, Act.put, List.setIfInBounds_toArray, List.set_cons_zero, List.set_cons_succ]) (hCont (g11, g12) _ ⟨BK6.out, BK7.out, BK11.out, BK12.out, NEQ.out, GE11.out, GE12.out, LT11.out, LT12.out, HB.out⟩)
        · skip
          refine box_step (by rfl) (N := 12) rfl (cs := #[.int .i64 0]) (t := 2) (by first | (go_simp; done) | (go_simp; rfl)) ?_
          intro g12 hg wd hx hb
          have GE12 : Aside0 (w.heap.size ≤ g12) := ⟨by rw [hg]; exact HB.out.size⟩
          have LT12 : Aside0 (g6 < g12 ∧ g7 < g12) := ⟨by have p6_ := blk_lt BK6.out; have p7_ := blk_lt BK7.out; omega⟩
          have n6_ := Aside0.mk (blk_below BK6.out hb)
          have n7_ := Aside0.mk (blk_below BK7.out hb)
          have nB_ := Aside0.mk (below_step HB.out hb)
          clear BK6 BK7 HB
          have BK6 := n6_
          have BK7 := n7_
          have HB := nB_
          clear n6_ n7_ nB_
          have BK12 := Aside0.mk hx
          clear hb hx hg
          refine hK.out _ _ ⟨(blk_cell BK6.out 0).trans rfl, (blk_cell BK7.out 0).trans rfl⟩ (fun hHeld => ?_)
          clear hK K
          refine norm_ (a' := ?_) ?_ ?_
          rotate_left
          · show Act.put _ (some 12) _ = _
            simp only [Act.put, List.setIfInBounds_toArray, List.set_cons_zero, List.set_cons_succ, i64_w, i32_w]
            rfl
          refine two_ (i := 6) (j := 8) (Ni := some 29) (Nj := some 11) #[true, true, true, true, true, true, true, false, false, true, false, false] #[true, true, true, true, true, true, false, false, true, true, false, false] rfl rfl rfl rfl (by kernel_rfl) (by decide) (by decide) (fun K hK => ?_) (fun K hK => ?_)
          · skip
            refine goes_ Try.func41 (by kernel_rfl) rfl #[.int .u64 y, .int .i64 4] (by rfl) rfl rfl (by (try simp only [List.map_toArray, List.map_cons, List.map_nil]); first | done | rfl) ?_
            with_reducible refine (words_Sext.calls y 4 t _ A4.out).mono ?_
            rintro e wd ⟨rfl, hd⟩
            refine ⟨_, rfl, ?_⟩
            have hb := Drawn0.below hd
            clear hd
            have n6_ := Aside0.mk (blk_below BK6.out hb)
            have n7_ := Aside0.mk (blk_below BK7.out hb)
            have n12_ := Aside0.mk (blk_below BK12.out hb)
            have nB_ := Aside0.mk (below_step HB.out hb)
            clear BK6 BK7 BK12 HB
            have BK6 := n6_
            have BK7 := n7_
            have BK12 := n12_
            have HB := nB_
            clear n6_ n7_ n12_ nB_
            clear hb
            refine hK.out _ _ ⟨(blk_cell BK6.out 0).trans rfl, (blk_cell BK7.out 0).trans rfl⟩ (fun hHeld => ?_)
            clear hK K
            refine norm_ (a' := ?_) ?_ ?_
            rotate_left
            · show Act.put _ (some 29) _ = _
              simp only [Act.put, List.setIfInBounds_toArray, List.set_cons_zero, List.set_cons_succ, i64_w, i32_w]
              rfl
            refine pure_ (i := 7) (N := some 30) (v := ?_) (a' := ?_) #[true, true, true, true, true, true, true, true, false, true, false, false] rfl rfl (by kernel_rfl) (fun _ _ _ h => h) (Or.inl ⟨by rfl, ?_⟩) ?_ ?_
            rotate_left
            · intro w'
              go_simp
              with_reducible rfl
            rotate_left
            · simp only [Act.put, List.setIfInBounds_toArray, List.set_cons_zero, List.set_cons_succ, i64_w, i32_w]
              rfl
            refine one_ (i := 8) (N := some 11) #[true, true, true, true, true, true, true, true, true, true, false, false] rfl rfl (by kernel_rfl) (by decide) (fun K hK => ?_)
            refine box_step (by rfl) (N := 11) rfl (cs := #[.int .i64 0]) (t := 2) (by first | (go_simp; done) | (go_simp; rfl)) ?_
            intro g11 hg wd hx hb
            have NEQ : Aside0 (g11 ≠ g12) := ⟨by have := blk_lt BK12.out; omega⟩
            have GE11 : Aside0 (w.heap.size ≤ g11) := ⟨by rw [hg]; exact HB.out.size⟩
            have LT11 : Aside0 (g6 < g11 ∧ g7 < g11) := ⟨by have p6_ := blk_lt BK6.out; have p7_ := blk_lt BK7.out; omega⟩
            have n6_ := Aside0.mk (blk_below BK6.out hb)
            have n7_ := Aside0.mk (blk_below BK7.out hb)
            have n12_ := Aside0.mk (blk_below BK12.out hb)
            have nB_ := Aside0.mk (below_step HB.out hb)
            clear BK6 BK7 BK12 HB
            have BK6 := n6_
            have BK7 := n7_
            have BK12 := n12_
            have HB := nB_
            clear n6_ n7_ n12_ nB_
            have BK11 := Aside0.mk hx
            clear hb hx hg
            refine hK.out _ _ ⟨(blk_cell BK6.out 0).trans rfl, (blk_cell BK7.out 0).trans rfl⟩ (fun hHeld => ?_)
            clear hK K
            refine norm_ (a' := ?_) ?_ ?_
            rotate_left
            · show Act.put _ (some 11) _ = _
              simp only [Act.put, List.setIfInBounds_toArray, List.set_cons_zero, List.set_cons_succ, i64_w, i32_w]
              rfl
            exact norm_ (by simp only [putAll, Act.put, List.setIfInBounds_toArray, List.set_cons_zero, List.set_cons_succ]) (hCont (g11, g12) _ ⟨BK6.out, BK7.out, BK11.out, BK12.out, NEQ.out, GE11.out, GE12.out, LT11.out, LT12.out, HB.out⟩)
          · skip
            refine box_step (by rfl) (N := 11) rfl (cs := #[.int .i64 0]) (t := 2) (by first | (go_simp; done) | (go_simp; rfl)) ?_
            intro g11 hg wd hx hb
            have NEQ : Aside0 (g11 ≠ g12) := ⟨by have := blk_lt BK12.out; omega⟩
            have GE11 : Aside0 (w.heap.size ≤ g11) := ⟨by rw [hg]; exact HB.out.size⟩
            have LT11 : Aside0 (g6 < g11 ∧ g7 < g11) := ⟨by have p6_ := blk_lt BK6.out; have p7_ := blk_lt BK7.out; omega⟩
            have n6_ := Aside0.mk (blk_below BK6.out hb)
            have n7_ := Aside0.mk (blk_below BK7.out hb)
            have n12_ := Aside0.mk (blk_below BK12.out hb)
            have nB_ := Aside0.mk (below_step HB.out hb)
            clear BK6 BK7 BK12 HB
            have BK6 := n6_
            have BK7 := n7_
            have BK12 := n12_
            have HB := nB_
            clear n6_ n7_ n12_ nB_
            have BK11 := Aside0.mk hx
            clear hb hx hg
            refine hK.out _ _ ⟨(blk_cell BK6.out 0).trans rfl, (blk_cell BK7.out 0).trans rfl⟩ (fun hHeld => ?_)
            clear hK K
            refine norm_ (a' := ?_) ?_ ?_
            rotate_left
            · show Act.put _ (some 11) _ = _
              simp only [Act.put, List.setIfInBounds_toArray, List.set_cons_zero, List.set_cons_succ, i64_w, i32_w]
              rfl
            refine one_ (i := 6) (N := some 29) #[true, true, true, true, true, true, true, false, true, true, false, false] rfl rfl (by kernel_rfl) (by decide) (fun K hK => ?_)
            refine goes_ Try.func41 (by kernel_rfl) rfl #[.int .u64 y, .int .i64 4] (by rfl) rfl rfl (by (try simp only [List.map_toArray, List.map_cons, List.map_nil]); first | done | rfl) ?_
            with_reducible refine (words_Sext.calls y 4 t _ A4.out).mono ?_
            rintro e wd ⟨rfl, hd⟩
            refine ⟨_, rfl, ?_⟩
            have hb := Drawn0.below hd
            clear hd
            have n6_ := Aside0.mk (blk_below BK6.out hb)
            have n7_ := Aside0.mk (blk_below BK7.out hb)
            have n12_ := Aside0.mk (blk_below BK12.out hb)
            have n11_ := Aside0.mk (blk_below BK11.out hb)
            have nB_ := Aside0.mk (below_step HB.out hb)
            clear BK6 BK7 BK12 BK11 HB
            have BK6 := n6_
            have BK7 := n7_
            have BK12 := n12_
            have BK11 := n11_
            have HB := nB_
            clear n6_ n7_ n12_ n11_ nB_
            clear hb
            refine hK.out _ _ ⟨(blk_cell BK6.out 0).trans rfl, (blk_cell BK7.out 0).trans rfl⟩ (fun hHeld => ?_)
            clear hK K
            refine norm_ (a' := ?_) ?_ ?_
            rotate_left
            · show Act.put _ (some 29) _ = _
              simp only [Act.put, List.setIfInBounds_toArray, List.set_cons_zero, List.set_cons_succ, i64_w, i32_w]
              rfl
            refine pure_ (i := 7) (N := some 30) (v := ?_) (a' := ?_) #[true, true, true, true, true, true, true, true, true, true, false, false] rfl rfl (by kernel_rfl) (fun _ _ _ h => h) (Or.inl ⟨by rfl, ?_⟩) ?_ ?_
            rotate_left
            · intro w'
              go_simp
              with_reducible rfl
            rotate_left
            · simp only [Act.put, List.setIfInBounds_toArray, List.set_cons_zero, List.set_cons_succ, i64_w, i32_w]
              rfl
            exact norm_ (by simp only [putAll, Act.put, List.setIfInBounds_toArray, List.set_cons_zero, List.set_cons_succ]) (hCont (g11, g12) _ ⟨BK6.out, BK7.out, BK11.out, BK12.out, NEQ.out, GE11.out, GE12.out, LT11.out, LT12.out, HB.out⟩)
      · skip
        refine box_step (by rfl) (N := 11) rfl (cs := #[.int .i64 0]) (t := 2) (by first | (go_simp; done) | (go_simp; rfl)) ?_
        intro g11 hg wd hx hb
        have GE11 : Aside0 (w.heap.size ≤ g11) := ⟨by rw [hg]; exact HB.out.size⟩
        have LT11 : Aside0 (g6 < g11 ∧ g7 < g11) := ⟨by have p6_ := blk_lt BK6.out; have p7_ := blk_lt BK7.out; omega⟩
        have n6_ := Aside0.mk (blk_below BK6.out hb)
        have n7_ := Aside0.mk (blk_below BK7.out hb)
        have nB_ := Aside0.mk (below_step HB.out hb)
        clear BK6 BK7 HB
        have BK6 := n6_
        have BK7 := n7_
        have HB := nB_
        clear n6_ n7_ nB_
        have BK11 := Aside0.mk hx
        clear hb hx hg
        refine hK.out _ _ ⟨(blk_cell BK6.out 0).trans rfl, (blk_cell BK7.out 0).trans rfl⟩ (fun hHeld => ?_)
        clear hK K
        refine norm_ (a' := ?_) ?_ ?_
        rotate_left
        · show Act.put _ (some 11) _ = _
          simp only [Act.put, List.setIfInBounds_toArray, List.set_cons_zero, List.set_cons_succ, i64_w, i32_w]
          rfl
        refine two_ (i := 2) (j := 9) (Ni := some 25) (Nj := some 12) #[true, true, true, false, true, true, false, false, true, false, false, false] #[true, true, false, false, true, true, false, false, true, true, false, false] rfl rfl rfl rfl (by kernel_rfl) (by decide) (by decide) (fun K hK => ?_) (fun K hK => ?_)
        · skip
          refine goes_ Try.func41 (by kernel_rfl) rfl #[.int .u64 x, .int .i64 4] (by rfl) rfl rfl (by (try simp only [List.map_toArray, List.map_cons, List.map_nil]); first | done | rfl) ?_
          with_reducible refine (words_Sext.calls x 4 s _ A3.out).mono ?_
          rintro e wd ⟨rfl, hd⟩
          refine ⟨_, rfl, ?_⟩
          have hb := Drawn0.below hd
          clear hd
          have n6_ := Aside0.mk (blk_below BK6.out hb)
          have n7_ := Aside0.mk (blk_below BK7.out hb)
          have n11_ := Aside0.mk (blk_below BK11.out hb)
          have nB_ := Aside0.mk (below_step HB.out hb)
          clear BK6 BK7 BK11 HB
          have BK6 := n6_
          have BK7 := n7_
          have BK11 := n11_
          have HB := nB_
          clear n6_ n7_ n11_ nB_
          clear hb
          refine hK.out _ _ ⟨(blk_cell BK6.out 0).trans rfl, (blk_cell BK7.out 0).trans rfl⟩ (fun hHeld => ?_)
          clear hK K
          refine norm_ (a' := ?_) ?_ ?_
          rotate_left
          · show Act.put _ (some 25) _ = _
            simp only [Act.put, List.setIfInBounds_toArray, List.set_cons_zero, List.set_cons_succ, i64_w, i32_w]
            rfl
          refine pure_ (i := 3) (N := some 26) (v := ?_) (a' := ?_) #[true, true, true, true, true, true, false, false, true, false, false, false] rfl rfl (by kernel_rfl) (fun _ _ _ h => h) (Or.inl ⟨by rfl, ?_⟩) ?_ ?_
          rotate_left
          · intro w'
            go_simp
            with_reducible rfl
          rotate_left
          · simp only [Act.put, List.setIfInBounds_toArray, List.set_cons_zero, List.set_cons_succ, i64_w, i32_w]
            rfl
          refine two_ (i := 6) (j := 9) (Ni := some 29) (Nj := some 12) #[true, true, true, true, true, true, true, false, true, false, false, false] #[true, true, true, true, true, true, false, false, true, true, false, false] rfl rfl rfl rfl (by kernel_rfl) (by decide) (by decide) (fun K hK => ?_) (fun K hK => ?_)
          · skip
            refine goes_ Try.func41 (by kernel_rfl) rfl #[.int .u64 y, .int .i64 4] (by rfl) rfl rfl (by (try simp only [List.map_toArray, List.map_cons, List.map_nil]); first | done | rfl) ?_
            with_reducible refine (words_Sext.calls y 4 t _ A4.out).mono ?_
            rintro e wd ⟨rfl, hd⟩
            refine ⟨_, rfl, ?_⟩
            have hb := Drawn0.below hd
            clear hd
            have n6_ := Aside0.mk (blk_below BK6.out hb)
            have n7_ := Aside0.mk (blk_below BK7.out hb)
            have n11_ := Aside0.mk (blk_below BK11.out hb)
            have nB_ := Aside0.mk (below_step HB.out hb)
            clear BK6 BK7 BK11 HB
            have BK6 := n6_
            have BK7 := n7_
            have BK11 := n11_
            have HB := nB_
            clear n6_ n7_ n11_ nB_
            clear hb
            refine hK.out _ _ ⟨(blk_cell BK6.out 0).trans rfl, (blk_cell BK7.out 0).trans rfl⟩ (fun hHeld => ?_)
            clear hK K
            refine norm_ (a' := ?_) ?_ ?_
            rotate_left
            · show Act.put _ (some 29) _ = _
              simp only [Act.put, List.setIfInBounds_toArray, List.set_cons_zero, List.set_cons_succ, i64_w, i32_w]
              rfl
            refine pure_ (i := 7) (N := some 30) (v := ?_) (a' := ?_) #[true, true, true, true, true, true, true, true, true, false, false, false] rfl rfl (by kernel_rfl) (fun _ _ _ h => h) (Or.inl ⟨by rfl, ?_⟩) ?_ ?_
            rotate_left
            · intro w'
              go_simp
              with_reducible rfl
            rotate_left
            · simp only [Act.put, List.setIfInBounds_toArray, List.set_cons_zero, List.set_cons_succ, i64_w, i32_w]
              rfl
            refine one_ (i := 9) (N := some 12) #[true, true, true, true, true, true, true, true, true, true, false, false] rfl rfl (by kernel_rfl) (by decide) (fun K hK => ?_)
            refine box_step (by rfl) (N := 12) rfl (cs := #[.int .i64 0]) (t := 2) (by first | (go_simp; done) | (go_simp; rfl)) ?_
            intro g12 hg wd hx hb
            have NEQ : Aside0 (g11 ≠ g12) := ⟨by have := blk_lt BK11.out; omega⟩
            have GE12 : Aside0 (w.heap.size ≤ g12) := ⟨by rw [hg]; exact HB.out.size⟩
            have LT12 : Aside0 (g6 < g12 ∧ g7 < g12) := ⟨by have p6_ := blk_lt BK6.out; have p7_ := blk_lt BK7.out; omega⟩
            have n6_ := Aside0.mk (blk_below BK6.out hb)
            have n7_ := Aside0.mk (blk_below BK7.out hb)
            have n11_ := Aside0.mk (blk_below BK11.out hb)
            have nB_ := Aside0.mk (below_step HB.out hb)
            clear BK6 BK7 BK11 HB
            have BK6 := n6_
            have BK7 := n7_
            have BK11 := n11_
            have HB := nB_
            clear n6_ n7_ n11_ nB_
            have BK12 := Aside0.mk hx
            clear hb hx hg
            refine hK.out _ _ ⟨(blk_cell BK6.out 0).trans rfl, (blk_cell BK7.out 0).trans rfl⟩ (fun hHeld => ?_)
            clear hK K
            refine norm_ (a' := ?_) ?_ ?_
            rotate_left
            · show Act.put _ (some 12) _ = _
              simp only [Act.put, List.setIfInBounds_toArray, List.set_cons_zero, List.set_cons_succ, i64_w, i32_w]
              rfl
            exact norm_ (by simp only [putAll, Act.put, List.setIfInBounds_toArray, List.set_cons_zero, List.set_cons_succ]) (hCont (g11, g12) _ ⟨BK6.out, BK7.out, BK11.out, BK12.out, NEQ.out, GE11.out, GE12.out, LT11.out, LT12.out, HB.out⟩)
          · skip
            refine box_step (by rfl) (N := 12) rfl (cs := #[.int .i64 0]) (t := 2) (by first | (go_simp; done) | (go_simp; rfl)) ?_
            intro g12 hg wd hx hb
            have NEQ : Aside0 (g11 ≠ g12) := ⟨by have := blk_lt BK11.out; omega⟩
            have GE12 : Aside0 (w.heap.size ≤ g12) := ⟨by rw [hg]; exact HB.out.size⟩
            have LT12 : Aside0 (g6 < g12 ∧ g7 < g12) := ⟨by have p6_ := blk_lt BK6.out; have p7_ := blk_lt BK7.out; omega⟩
            have n6_ := Aside0.mk (blk_below BK6.out hb)
            have n7_ := Aside0.mk (blk_below BK7.out hb)
            have n11_ := Aside0.mk (blk_below BK11.out hb)
            have nB_ := Aside0.mk (below_step HB.out hb)
            clear BK6 BK7 BK11 HB
            have BK6 := n6_
            have BK7 := n7_
            have BK11 := n11_
            have HB := nB_
            clear n6_ n7_ n11_ nB_
            have BK12 := Aside0.mk hx
            clear hb hx hg
            refine hK.out _ _ ⟨(blk_cell BK6.out 0).trans rfl, (blk_cell BK7.out 0).trans rfl⟩ (fun hHeld => ?_)
            clear hK K
            refine norm_ (a' := ?_) ?_ ?_
            rotate_left
            · show Act.put _ (some 12) _ = _
              simp only [Act.put, List.setIfInBounds_toArray, List.set_cons_zero, List.set_cons_succ, i64_w, i32_w]
              rfl
            refine one_ (i := 6) (N := some 29) #[true, true, true, true, true, true, true, false, true, true, false, false] rfl rfl (by kernel_rfl) (by decide) (fun K hK => ?_)
            refine goes_ Try.func41 (by kernel_rfl) rfl #[.int .u64 y, .int .i64 4] (by rfl) rfl rfl (by (try simp only [List.map_toArray, List.map_cons, List.map_nil]); first | done | rfl) ?_
            with_reducible refine (words_Sext.calls y 4 t _ A4.out).mono ?_
            rintro e wd ⟨rfl, hd⟩
            refine ⟨_, rfl, ?_⟩
            have hb := Drawn0.below hd
            clear hd
            have n6_ := Aside0.mk (blk_below BK6.out hb)
            have n7_ := Aside0.mk (blk_below BK7.out hb)
            have n11_ := Aside0.mk (blk_below BK11.out hb)
            have n12_ := Aside0.mk (blk_below BK12.out hb)
            have nB_ := Aside0.mk (below_step HB.out hb)
            clear BK6 BK7 BK11 BK12 HB
            have BK6 := n6_
            have BK7 := n7_
            have BK11 := n11_
            have BK12 := n12_
            have HB := nB_
            clear n6_ n7_ n11_ n12_ nB_
            clear hb
            refine hK.out _ _ ⟨(blk_cell BK6.out 0).trans rfl, (blk_cell BK7.out 0).trans rfl⟩ (fun hHeld => ?_)
            clear hK K
            refine norm_ (a' := ?_) ?_ ?_
            rotate_left
            · show Act.put _ (some 29) _ = _
              simp only [Act.put, List.setIfInBounds_toArray, List.set_cons_zero, List.set_cons_succ, i64_w, i32_w]
              rfl
            refine pure_ (i := 7) (N := some 30) (v := ?_) (a' := ?_) #[true, true, true, true, true, true, true, true, true, true, false, false] rfl rfl (by kernel_rfl) (fun _ _ _ h => h) (Or.inl ⟨by rfl, ?_⟩) ?_ ?_
            rotate_left
            · intro w'
              go_simp
              with_reducible rfl
            rotate_left
            · simp only [Act.put, List.setIfInBounds_toArray, List.set_cons_zero, List.set_cons_succ, i64_w, i32_w]
              rfl
            exact norm_ (by simp only [putAll, Act.put, List.setIfInBounds_toArray, List.set_cons_zero, List.set_cons_succ]) (hCont (g11, g12) _ ⟨BK6.out, BK7.out, BK11.out, BK12.out, NEQ.out, GE11.out, GE12.out, LT11.out, LT12.out, HB.out⟩)
        · skip
          refine box_step (by rfl) (N := 12) rfl (cs := #[.int .i64 0]) (t := 2) (by first | (go_simp; done) | (go_simp; rfl)) ?_
          intro g12 hg wd hx hb
          have NEQ : Aside0 (g11 ≠ g12) := ⟨by have := blk_lt BK11.out; omega⟩
          have GE12 : Aside0 (w.heap.size ≤ g12) := ⟨by rw [hg]; exact HB.out.size⟩
          have LT12 : Aside0 (g6 < g12 ∧ g7 < g12) := ⟨by have p6_ := blk_lt BK6.out; have p7_ := blk_lt BK7.out; omega⟩
          have n6_ := Aside0.mk (blk_below BK6.out hb)
          have n7_ := Aside0.mk (blk_below BK7.out hb)
          have n11_ := Aside0.mk (blk_below BK11.out hb)
          have nB_ := Aside0.mk (below_step HB.out hb)
          clear BK6 BK7 BK11 HB
          have BK6 := n6_
          have BK7 := n7_
          have BK11 := n11_
          have HB := nB_
          clear n6_ n7_ n11_ nB_
          have BK12 := Aside0.mk hx
          clear hb hx hg
          refine hK.out _ _ ⟨(blk_cell BK6.out 0).trans rfl, (blk_cell BK7.out 0).trans rfl⟩ (fun hHeld => ?_)
          clear hK K
          refine norm_ (a' := ?_) ?_ ?_
          rotate_left
          · show Act.put _ (some 12) _ = _
            simp only [Act.put, List.setIfInBounds_toArray, List.set_cons_zero, List.set_cons_succ, i64_w, i32_w]
            rfl
          refine one_ (i := 2) (N := some 25) #[true, true, true, false, true, true, false, false, true, true, false, false] rfl rfl (by kernel_rfl) (by decide) (fun K hK => ?_)
          refine goes_ Try.func41 (by kernel_rfl) rfl #[.int .u64 x, .int .i64 4] (by rfl) rfl rfl (by (try simp only [List.map_toArray, List.map_cons, List.map_nil]); first | done | rfl) ?_
          with_reducible refine (words_Sext.calls x 4 s _ A3.out).mono ?_
          rintro e wd ⟨rfl, hd⟩
          refine ⟨_, rfl, ?_⟩
          have hb := Drawn0.below hd
          clear hd
          have n6_ := Aside0.mk (blk_below BK6.out hb)
          have n7_ := Aside0.mk (blk_below BK7.out hb)
          have n11_ := Aside0.mk (blk_below BK11.out hb)
          have n12_ := Aside0.mk (blk_below BK12.out hb)
          have nB_ := Aside0.mk (below_step HB.out hb)
          clear BK6 BK7 BK11 BK12 HB
          have BK6 := n6_
          have BK7 := n7_
          have BK11 := n11_
          have BK12 := n12_
          have HB := nB_
          clear n6_ n7_ n11_ n12_ nB_
          clear hb
          refine hK.out _ _ ⟨(blk_cell BK6.out 0).trans rfl, (blk_cell BK7.out 0).trans rfl⟩ (fun hHeld => ?_)
          clear hK K
          refine norm_ (a' := ?_) ?_ ?_
          rotate_left
          · show Act.put _ (some 25) _ = _
            simp only [Act.put, List.setIfInBounds_toArray, List.set_cons_zero, List.set_cons_succ, i64_w, i32_w]
            rfl
          refine pure_ (i := 3) (N := some 26) (v := ?_) (a' := ?_) #[true, true, true, true, true, true, false, false, true, true, false, false] rfl rfl (by kernel_rfl) (fun _ _ _ h => h) (Or.inl ⟨by rfl, ?_⟩) ?_ ?_
          rotate_left
          · intro w'
            go_simp
            with_reducible rfl
          rotate_left
          · simp only [Act.put, List.setIfInBounds_toArray, List.set_cons_zero, List.set_cons_succ, i64_w, i32_w]
            rfl
          refine one_ (i := 6) (N := some 29) #[true, true, true, true, true, true, true, false, true, true, false, false] rfl rfl (by kernel_rfl) (by decide) (fun K hK => ?_)
          refine goes_ Try.func41 (by kernel_rfl) rfl #[.int .u64 y, .int .i64 4] (by rfl) rfl rfl (by (try simp only [List.map_toArray, List.map_cons, List.map_nil]); first | done | rfl) ?_
          with_reducible refine (words_Sext.calls y 4 t _ A4.out).mono ?_
          rintro e wd ⟨rfl, hd⟩
          refine ⟨_, rfl, ?_⟩
          have hb := Drawn0.below hd
          clear hd
          have n6_ := Aside0.mk (blk_below BK6.out hb)
          have n7_ := Aside0.mk (blk_below BK7.out hb)
          have n11_ := Aside0.mk (blk_below BK11.out hb)
          have n12_ := Aside0.mk (blk_below BK12.out hb)
          have nB_ := Aside0.mk (below_step HB.out hb)
          clear BK6 BK7 BK11 BK12 HB
          have BK6 := n6_
          have BK7 := n7_
          have BK11 := n11_
          have BK12 := n12_
          have HB := nB_
          clear n6_ n7_ n11_ n12_ nB_
          clear hb
          refine hK.out _ _ ⟨(blk_cell BK6.out 0).trans rfl, (blk_cell BK7.out 0).trans rfl⟩ (fun hHeld => ?_)
          clear hK K
          refine norm_ (a' := ?_) ?_ ?_
          rotate_left
          · show Act.put _ (some 29) _ = _
            simp only [Act.put, List.setIfInBounds_toArray, List.set_cons_zero, List.set_cons_succ, i64_w, i32_w]
            rfl
          refine pure_ (i := 7) (N := some 30) (v := ?_) (a' := ?_) #[true, true, true, true, true, true, true, true, true, true, false, false] rfl rfl (by kernel_rfl) (fun _ _ _ h => h) (Or.inl ⟨by rfl, ?_⟩) ?_ ?_
          rotate_left
          · intro w'
            go_simp
            with_reducible rfl
          rotate_left
          · simp only [Act.put, List.setIfInBounds_toArray, List.set_cons_zero, List.set_cons_succ, i64_w, i32_w]
            rfl
          exact norm_ (by simp only [putAll, Act.put, List.setIfInBounds_toArray, List.set_cons_zero, List.set_cons_succ]) (hCont (g11, g12) _ ⟨BK6.out, BK7.out, BK11.out, BK12.out, NEQ.out, GE11.out, GE12.out, LT11.out, LT12.out, HB.out⟩)
      · skip
        refine box_step (by rfl) (N := 12) rfl (cs := #[.int .i64 0]) (t := 2) (by first | (go_simp; done) | (go_simp; rfl)) ?_
        intro g12 hg wd hx hb
        have GE12 : Aside0 (w.heap.size ≤ g12) := ⟨by rw [hg]; exact HB.out.size⟩
        have LT12 : Aside0 (g6 < g12 ∧ g7 < g12) := ⟨by have p6_ := blk_lt BK6.out; have p7_ := blk_lt BK7.out; omega⟩
        have n6_ := Aside0.mk (blk_below BK6.out hb)
        have n7_ := Aside0.mk (blk_below BK7.out hb)
        have nB_ := Aside0.mk (below_step HB.out hb)
        clear BK6 BK7 HB
        have BK6 := n6_
        have BK7 := n7_
        have HB := nB_
        clear n6_ n7_ nB_
        have BK12 := Aside0.mk hx
        clear hb hx hg
        refine hK.out _ _ ⟨(blk_cell BK6.out 0).trans rfl, (blk_cell BK7.out 0).trans rfl⟩ (fun hHeld => ?_)
        clear hK K
        refine norm_ (a' := ?_) ?_ ?_
        rotate_left
        · show Act.put _ (some 12) _ = _
          simp only [Act.put, List.setIfInBounds_toArray, List.set_cons_zero, List.set_cons_succ, i64_w, i32_w]
          rfl
        refine two_ (i := 2) (j := 8) (Ni := some 25) (Nj := some 11) #[true, true, true, false, true, true, false, false, false, true, false, false] #[true, true, false, false, true, true, false, false, true, true, false, false] rfl rfl rfl rfl (by kernel_rfl) (by decide) (by decide) (fun K hK => ?_) (fun K hK => ?_)
        · skip
          refine goes_ Try.func41 (by kernel_rfl) rfl #[.int .u64 x, .int .i64 4] (by rfl) rfl rfl (by (try simp only [List.map_toArray, List.map_cons, List.map_nil]); first | done | rfl) ?_
          with_reducible refine (words_Sext.calls x 4 s _ A3.out).mono ?_
          rintro e wd ⟨rfl, hd⟩
          refine ⟨_, rfl, ?_⟩
          have hb := Drawn0.below hd
          clear hd
          have n6_ := Aside0.mk (blk_below BK6.out hb)
          have n7_ := Aside0.mk (blk_below BK7.out hb)
          have n12_ := Aside0.mk (blk_below BK12.out hb)
          have nB_ := Aside0.mk (below_step HB.out hb)
          clear BK6 BK7 BK12 HB
          have BK6 := n6_
          have BK7 := n7_
          have BK12 := n12_
          have HB := nB_
          clear n6_ n7_ n12_ nB_
          clear hb
          refine hK.out _ _ ⟨(blk_cell BK6.out 0).trans rfl, (blk_cell BK7.out 0).trans rfl⟩ (fun hHeld => ?_)
          clear hK K
          refine norm_ (a' := ?_) ?_ ?_
          rotate_left
          · show Act.put _ (some 25) _ = _
            simp only [Act.put, List.setIfInBounds_toArray, List.set_cons_zero, List.set_cons_succ, i64_w, i32_w]
            rfl
          refine pure_ (i := 3) (N := some 26) (v := ?_) (a' := ?_) #[true, true, true, true, true, true, false, false, false, true, false, false] rfl rfl (by kernel_rfl) (fun _ _ _ h => h) (Or.inl ⟨by rfl, ?_⟩) ?_ ?_
          rotate_left
          · intro w'
            go_simp
            with_reducible rfl
          rotate_left
          · simp only [Act.put, List.setIfInBounds_toArray, List.set_cons_zero, List.set_cons_succ, i64_w, i32_w]
            rfl
          refine two_ (i := 6) (j := 8) (Ni := some 29) (Nj := some 11) #[true, true, true, true, true, true, true, false, false, true, false, false] #[true, true, true, true, true, true, false, false, true, true, false, false] rfl rfl rfl rfl (by kernel_rfl) (by decide) (by decide) (fun K hK => ?_) (fun K hK => ?_)
          · skip
            refine goes_ Try.func41 (by kernel_rfl) rfl #[.int .u64 y, .int .i64 4] (by rfl) rfl rfl (by (try simp only [List.map_toArray, List.map_cons, List.map_nil]); first | done | rfl) ?_
            with_reducible refine (words_Sext.calls y 4 t _ A4.out).mono ?_
            rintro e wd ⟨rfl, hd⟩
            refine ⟨_, rfl, ?_⟩
            have hb := Drawn0.below hd
            clear hd
            have n6_ := Aside0.mk (blk_below BK6.out hb)
            have n7_ := Aside0.mk (blk_below BK7.out hb)
            have n12_ := Aside0.mk (blk_below BK12.out hb)
            have nB_ := Aside0.mk (below_step HB.out hb)
            clear BK6 BK7 BK12 HB
            have BK6 := n6_
            have BK7 := n7_
            have BK12 := n12_
            have HB := nB_
            clear n6_ n7_ n12_ nB_
            clear hb
            refine hK.out _ _ ⟨(blk_cell BK6.out 0).trans rfl, (blk_cell BK7.out 0).trans rfl⟩ (fun hHeld => ?_)
            clear hK K
            refine norm_ (a' := ?_) ?_ ?_
            rotate_left
            · show Act.put _ (some 29) _ = _
              simp only [Act.put, List.setIfInBounds_toArray, List.set_cons_zero, List.set_cons_succ, i64_w, i32_w]
              rfl
            refine pure_ (i := 7) (N := some 30) (v := ?_) (a' := ?_) #[true, true, true, true, true, true, true, true, false, true, false, false] rfl rfl (by kernel_rfl) (fun _ _ _ h => h) (Or.inl ⟨by rfl, ?_⟩) ?_ ?_
            rotate_left
            · intro w'
              go_simp
              with_reducible rfl
            rotate_left
            · simp only [Act.put, List.setIfInBounds_toArray, List.set_cons_zero, List.set_cons_succ, i64_w, i32_w]
              rfl
            refine one_ (i := 8) (N := some 11) #[true, true, true, true, true, true, true, true, true, true, false, false] rfl rfl (by kernel_rfl) (by decide) (fun K hK => ?_)
            refine box_step (by rfl) (N := 11) rfl (cs := #[.int .i64 0]) (t := 2) (by first | (go_simp; done) | (go_simp; rfl)) ?_
            intro g11 hg wd hx hb
            have NEQ : Aside0 (g11 ≠ g12) := ⟨by have := blk_lt BK12.out; omega⟩
            have GE11 : Aside0 (w.heap.size ≤ g11) := ⟨by rw [hg]; exact HB.out.size⟩
            have LT11 : Aside0 (g6 < g11 ∧ g7 < g11) := ⟨by have p6_ := blk_lt BK6.out; have p7_ := blk_lt BK7.out; omega⟩
            have n6_ := Aside0.mk (blk_below BK6.out hb)
            have n7_ := Aside0.mk (blk_below BK7.out hb)
            have n12_ := Aside0.mk (blk_below BK12.out hb)
            have nB_ := Aside0.mk (below_step HB.out hb)
            clear BK6 BK7 BK12 HB
            have BK6 := n6_
            have BK7 := n7_
            have BK12 := n12_
            have HB := nB_
            clear n6_ n7_ n12_ nB_
            have BK11 := Aside0.mk hx
            clear hb hx hg
            refine hK.out _ _ ⟨(blk_cell BK6.out 0).trans rfl, (blk_cell BK7.out 0).trans rfl⟩ (fun hHeld => ?_)
            clear hK K
            refine norm_ (a' := ?_) ?_ ?_
            rotate_left
            · show Act.put _ (some 11) _ = _
              simp only [Act.put, List.setIfInBounds_toArray, List.set_cons_zero, List.set_cons_succ, i64_w, i32_w]
              rfl
            exact norm_ (by simp only [putAll, Act.put, List.setIfInBounds_toArray, List.set_cons_zero, List.set_cons_succ]) (hCont (g11, g12) _ ⟨BK6.out, BK7.out, BK11.out, BK12.out, NEQ.out, GE11.out, GE12.out, LT11.out, LT12.out, HB.out⟩)
          · skip
            refine box_step (by rfl) (N := 11) rfl (cs := #[.int .i64 0]) (t := 2) (by first | (go_simp; done) | (go_simp; rfl)) ?_
            intro g11 hg wd hx hb
            have NEQ : Aside0 (g11 ≠ g12) := ⟨by have := blk_lt BK12.out; omega⟩
            have GE11 : Aside0 (w.heap.size ≤ g11) := ⟨by rw [hg]; exact HB.out.size⟩
            have LT11 : Aside0 (g6 < g11 ∧ g7 < g11) := ⟨by have p6_ := blk_lt BK6.out; have p7_ := blk_lt BK7.out; omega⟩
            have n6_ := Aside0.mk (blk_below BK6.out hb)
            have n7_ := Aside0.mk (blk_below BK7.out hb)
            have n12_ := Aside0.mk (blk_below BK12.out hb)
            have nB_ := Aside0.mk (below_step HB.out hb)
            clear BK6 BK7 BK12 HB
            have BK6 := n6_
            have BK7 := n7_
            have BK12 := n12_
            have HB := nB_
            clear n6_ n7_ n12_ nB_
            have BK11 := Aside0.mk hx
            clear hb hx hg
            refine hK.out _ _ ⟨(blk_cell BK6.out 0).trans rfl, (blk_cell BK7.out 0).trans rfl⟩ (fun hHeld => ?_)
            clear hK K
            refine norm_ (a' := ?_) ?_ ?_
            rotate_left
            · show Act.put _ (some 11) _ = _
              simp only [Act.put, List.setIfInBounds_toArray, List.set_cons_zero, List.set_cons_succ, i64_w, i32_w]
              rfl
            refine one_ (i := 6) (N := some 29) #[true, true, true, true, true, true, true, false, true, true, false, false] rfl rfl (by kernel_rfl) (by decide) (fun K hK => ?_)
            refine goes_ Try.func41 (by kernel_rfl) rfl #[.int .u64 y, .int .i64 4] (by rfl) rfl rfl (by (try simp only [List.map_toArray, List.map_cons, List.map_nil]); first | done | rfl) ?_
            with_reducible refine (words_Sext.calls y 4 t _ A4.out).mono ?_
            rintro e wd ⟨rfl, hd⟩
            refine ⟨_, rfl, ?_⟩
            have hb := Drawn0.below hd
            clear hd
            have n6_ := Aside0.mk (blk_below BK6.out hb)
            have n7_ := Aside0.mk (blk_below BK7.out hb)
            have n12_ := Aside0.mk (blk_below BK12.out hb)
            have n11_ := Aside0.mk (blk_below BK11.out hb)
            have nB_ := Aside0.mk (below_step HB.out hb)
            clear BK6 BK7 BK12 BK11 HB
            have BK6 := n6_
            have BK7 := n7_
            have BK12 := n12_
            have BK11 := n11_
            have HB := nB_
            clear n6_ n7_ n12_ n11_ nB_
            clear hb
            refine hK.out _ _ ⟨(blk_cell BK6.out 0).trans rfl, (blk_cell BK7.out 0).trans rfl⟩ (fun hHeld => ?_)
            clear hK K
            refine norm_ (a' := ?_) ?_ ?_
            rotate_left
            · show Act.put _ (some 29) _ = _
              simp only [Act.put, List.setIfInBounds_toArray, List.set_cons_zero, List.set_cons_succ, i64_w, i32_w]
              rfl
            refine pure_ (i := 7) (N := some 30) (v := ?_) (a' := ?_) #[true, true, true, true, true, true, true, true, true, true, false, false] rfl rfl (by kernel_rfl) (fun _ _ _ h => h) (Or.inl ⟨by rfl, ?_⟩) ?_ ?_
            rotate_left
            · intro w'
              go_simp
              with_reducible rfl
            rotate_left
            · simp only [Act.put, List.setIfInBounds_toArray, List.set_cons_zero, List.set_cons_succ, i64_w, i32_w]
              rfl
            exact norm_ (by simp only [putAll, Act.put, List.setIfInBounds_toArray, List.set_cons_zero, List.set_cons_succ]) (hCont (g11, g12) _ ⟨BK6.out, BK7.out, BK11.out, BK12.out, NEQ.out, GE11.out, GE12.out, LT11.out, LT12.out, HB.out⟩)
        · skip
          refine box_step (by rfl) (N := 11) rfl (cs := #[.int .i64 0]) (t := 2) (by first | (go_simp; done) | (go_simp; rfl)) ?_
          intro g11 hg wd hx hb
          have NEQ : Aside0 (g11 ≠ g12) := ⟨by have := blk_lt BK12.out; omega⟩
          have GE11 : Aside0 (w.heap.size ≤ g11) := ⟨by rw [hg]; exact HB.out.size⟩
          have LT11 : Aside0 (g6 < g11 ∧ g7 < g11) := ⟨by have p6_ := blk_lt BK6.out; have p7_ := blk_lt BK7.out; omega⟩
          have n6_ := Aside0.mk (blk_below BK6.out hb)
          have n7_ := Aside0.mk (blk_below BK7.out hb)
          have n12_ := Aside0.mk (blk_below BK12.out hb)
          have nB_ := Aside0.mk (below_step HB.out hb)
          clear BK6 BK7 BK12 HB
          have BK6 := n6_
          have BK7 := n7_
          have BK12 := n12_
          have HB := nB_
          clear n6_ n7_ n12_ nB_
          have BK11 := Aside0.mk hx
          clear hb hx hg
          refine hK.out _ _ ⟨(blk_cell BK6.out 0).trans rfl, (blk_cell BK7.out 0).trans rfl⟩ (fun hHeld => ?_)
          clear hK K
          refine norm_ (a' := ?_) ?_ ?_
          rotate_left
          · show Act.put _ (some 11) _ = _
            simp only [Act.put, List.setIfInBounds_toArray, List.set_cons_zero, List.set_cons_succ, i64_w, i32_w]
            rfl
          refine one_ (i := 2) (N := some 25) #[true, true, true, false, true, true, false, false, true, true, false, false] rfl rfl (by kernel_rfl) (by decide) (fun K hK => ?_)
          refine goes_ Try.func41 (by kernel_rfl) rfl #[.int .u64 x, .int .i64 4] (by rfl) rfl rfl (by (try simp only [List.map_toArray, List.map_cons, List.map_nil]); first | done | rfl) ?_
          with_reducible refine (words_Sext.calls x 4 s _ A3.out).mono ?_
          rintro e wd ⟨rfl, hd⟩
          refine ⟨_, rfl, ?_⟩
          have hb := Drawn0.below hd
          clear hd
          have n6_ := Aside0.mk (blk_below BK6.out hb)
          have n7_ := Aside0.mk (blk_below BK7.out hb)
          have n12_ := Aside0.mk (blk_below BK12.out hb)
          have n11_ := Aside0.mk (blk_below BK11.out hb)
          have nB_ := Aside0.mk (below_step HB.out hb)
          clear BK6 BK7 BK12 BK11 HB
          have BK6 := n6_
          have BK7 := n7_
          have BK12 := n12_
          have BK11 := n11_
          have HB := nB_
          clear n6_ n7_ n12_ n11_ nB_
          clear hb
          refine hK.out _ _ ⟨(blk_cell BK6.out 0).trans rfl, (blk_cell BK7.out 0).trans rfl⟩ (fun hHeld => ?_)
          clear hK K
          refine norm_ (a' := ?_) ?_ ?_
          rotate_left
          · show Act.put _ (some 25) _ = _
            simp only [Act.put, List.setIfInBounds_toArray, List.set_cons_zero, List.set_cons_succ, i64_w, i32_w]
            rfl
          refine pure_ (i := 3) (N := some 26) (v := ?_) (a' := ?_) #[true, true, true, true, true, true, false, false, true, true, false, false] rfl rfl (by kernel_rfl) (fun _ _ _ h => h) (Or.inl ⟨by rfl, ?_⟩) ?_ ?_
          rotate_left
          · intro w'
            go_simp
            with_reducible rfl
          rotate_left
          · simp only [Act.put, List.setIfInBounds_toArray, List.set_cons_zero, List.set_cons_succ, i64_w, i32_w]
            rfl
          refine one_ (i := 6) (N := some 29) #[true, true, true, true, true, true, true, false, true, true, false, false] rfl rfl (by kernel_rfl) (by decide) (fun K hK => ?_)
          refine goes_ Try.func41 (by kernel_rfl) rfl #[.int .u64 y, .int .i64 4] (by rfl) rfl rfl (by (try simp only [List.map_toArray, List.map_cons, List.map_nil]); first | done | rfl) ?_
          with_reducible refine (words_Sext.calls y 4 t _ A4.out).mono ?_
          rintro e wd ⟨rfl, hd⟩
          refine ⟨_, rfl, ?_⟩
          have hb := Drawn0.below hd
          clear hd
          have n6_ := Aside0.mk (blk_below BK6.out hb)
          have n7_ := Aside0.mk (blk_below BK7.out hb)
          have n12_ := Aside0.mk (blk_below BK12.out hb)
          have n11_ := Aside0.mk (blk_below BK11.out hb)
          have nB_ := Aside0.mk (below_step HB.out hb)
          clear BK6 BK7 BK12 BK11 HB
          have BK6 := n6_
          have BK7 := n7_
          have BK12 := n12_
          have BK11 := n11_
          have HB := nB_
          clear n6_ n7_ n12_ n11_ nB_
          clear hb
          refine hK.out _ _ ⟨(blk_cell BK6.out 0).trans rfl, (blk_cell BK7.out 0).trans rfl⟩ (fun hHeld => ?_)
          clear hK K
          refine norm_ (a' := ?_) ?_ ?_
          rotate_left
          · show Act.put _ (some 29) _ = _
            simp only [Act.put, List.setIfInBounds_toArray, List.set_cons_zero, List.set_cons_succ, i64_w, i32_w]
            rfl
          refine pure_ (i := 7) (N := some 30) (v := ?_) (a' := ?_) #[true, true, true, true, true, true, true, true, true, true, false, false] rfl rfl (by kernel_rfl) (fun _ _ _ h => h) (Or.inl ⟨by rfl, ?_⟩) ?_ ?_
          rotate_left
          · intro w'
            go_simp
            with_reducible rfl
          rotate_left
          · simp only [Act.put, List.setIfInBounds_toArray, List.set_cons_zero, List.set_cons_succ, i64_w, i32_w]
            rfl
          exact norm_ (by simp only [putAll, Act.put, List.setIfInBounds_toArray, List.set_cons_zero, List.set_cons_succ]) (hCont (g11, g12) _ ⟨BK6.out, BK7.out, BK11.out, BK12.out, NEQ.out, GE11.out, GE12.out, LT11.out, LT12.out, HB.out⟩)
    rintro ⟨g11, g12⟩ wr7 ⟨h0_, h1_, h2_, h3_, h4_, h5_, h6_, h7_, h8_, h9_⟩
    clear BK6 BK7 HB hHeld
    have BK6 : Aside0 (wr7.heap[g6]? = some (.cells #[.int .u64 x] 22 (0, 0))) := ⟨h0_⟩
    have BK7 : Aside0 (wr7.heap[g7]? = some (.cells #[.int .u64 y] 22 (0, 0))) := ⟨h1_⟩
    have BK11 : Aside0 (wr7.heap[g11]? = some (.cells #[.int .i64 0] 2 (0, 0))) := ⟨h2_⟩
    have BK12 : Aside0 (wr7.heap[g12]? = some (.cells #[.int .i64 0] 2 (0, 0))) := ⟨h3_⟩
    have NEQ : Aside0 (g11 ≠ g12) := ⟨h4_⟩
    have GE11 : Aside0 (w.heap.size ≤ g11) := ⟨h5_⟩
    have GE12 : Aside0 (w.heap.size ≤ g12) := ⟨h6_⟩
    have LT11 : Aside0 (g6 < g11 ∧ g7 < g11) := ⟨h7_⟩
    have LT12 : Aside0 (g6 < g12 ∧ g7 < g12) := ⟨h8_⟩
    have HB := Aside0.mk h9_
    clear h0_ h1_ h2_ h3_ h4_ h5_ h6_ h7_ h8_ h9_
    refine norm_ (a' := ?_) ?_ ?_
    rotate_left
    · simp only [putAll, Act.put, List.setIfInBounds_toArray, List.set_cons_zero, List.set_cons_succ]
      rfl
    have e11 : wr7.cell? ⟨g11, 0, none⟩ = some (.int .i64 0) := (blk_cell BK11.out 0).trans rfl
    have e12 : wr7.cell? ⟨g12, 0, none⟩ = some (.int .i64 0) := (blk_cell BK12.out 0).trans rfl
    have z11 := blk_frozen BK11.out 0
    have z12 := blk_frozen BK12.out 0
    have q1 := NEQ.out
    have q2 := NEQ.out.symm
    refine last_ (i := 10) (N := none) #[true, true, true, true, true, true, true, true, true, true, true, false] rfl rfl (by kernel_rfl) (by decide) (fun K hK => ?_)
    refine skip_ (w1 := ?_) (by rfl) rfl ?_ ?_
    rotate_left
    · go_simp
      rfl
    refine hK.out _ _ ?_
    clear hK K
    refine last_ (i := 11) (N := none) #[true, true, true, true, true, true, true, true, true, true, true, true] rfl rfl (by kernel_rfl) (by decide) (fun K hK => ?_)
    refine skip_ (w1 := ?_) (by rfl) rfl ?_ ?_
    rotate_left
    · go_simp
      rfl
    refine hK.out _ _ ?_
    clear hK K
    refine done_ (by kernel_rfl) ?_
    clear e11 e12 z11 z12
    have q3 : g6 ≠ g11 := Nat.ne_of_lt LT11.out.1
    have q4 : g7 ≠ g11 := Nat.ne_of_lt LT11.out.2
    have q5 : g6 ≠ g12 := Nat.ne_of_lt LT12.out.1
    have q6 : g7 ≠ g12 := Nat.ne_of_lt LT12.out.2
    refine gate_world (fun W : World => W.heap[g6]? = some (.cells #[.int .u64 x] 22 (0, 0)) ∧ W.heap[g7]? = some (.cells #[.int .u64 y] 22 (0, 0)) ∧ W.heap[g11]? = some (.cells #[.int .i64 (wrap64 s)] 2 (0, 0)) ∧ W.heap[g12]? = some (.cells #[.int .i64 (wrap64 t)] 2 (0, 0)) ∧ Below w.heap.size w W) ⟨blk_far (blk_far BK6.out q3 _) q5 _, blk_far (blk_far BK7.out q4 _) q6 _, blk_far (blk_put (cs := #[.int .i64 0]) BK11.out 0 _ rfl) q1 _, blk_put (cs := #[.int .i64 0]) (blk_far BK12.out q2 _) 0 _ rfl, below_set (below_set HB.out GE11.out) GE12.out⟩ ?_
    rintro wr8 ⟨x6_, x7_, x11_, x12_, xb_⟩
    clear BK6 BK7 BK11 BK12 HB q1 q2 q3 q4 q5 q6
    have BK6 := Aside0.mk x6_
    have BK7 := Aside0.mk x7_
    have BK11 := Aside0.mk x11_
    have BK12 := Aside0.mk x12_
    have HB := Aside0.mk xb_
    clear x6_ x7_ x11_ x12_ xb_
    clear A1 A2 A3 A4 LT11 LT12 NEQ NE67 GE6 GE7 GE11 GE12
    have h := HC.out
    clear HC
    cases hc : alu_cond.f a0 x y (wrap64 s) (wrap64 t) with
    | none =>
      rw [hc] at h
      simp only [Option.some.injEq, Prod.mk.injEq] at h
      obtain ⟨rfl, rfl⟩ := h
      have HL := alu_cond_none g6 g7 g11 g12 hc
      clear hc
      go_wp2_with (first | ((with_reducible refine gate_dst (N := 32) rfl ?_); refine mkmap_event (N := 32) rfl rfl rfl ?_; intro gm hg wm hm hb; have GEM : Aside0 (w.heap.size ≤ gm ∧ gm = gm) := ⟨by rw [hg]; exact ⟨HB.out.size, rfl⟩⟩; have NM : Aside0 (g6 ≠ gm ∧ g7 ≠ gm ∧ g11 ≠ gm ∧ g12 ≠ gm) := ⟨by have p6_ := blk_lt BK6.out; have p7_ := blk_lt BK7.out; have p11_ := blk_lt BK11.out; have p12_ := blk_lt BK12.out; omega⟩; have n6_ := Aside0.mk (blk_below BK6.out hb); have n7_ := Aside0.mk (blk_below BK7.out hb); have n11_ := Aside0.mk (blk_below BK11.out hb); have n12_ := Aside0.mk (blk_below BK12.out hb); have nB_ := Aside0.mk (below_step HB.out hb); clear BK6 BK7 BK11 BK12 HB; have BK6 := n6_; have BK7 := n7_; have BK11 := n11_; have BK12 := n12_; have HB := nB_; clear n6_ n7_ n11_ n12_ nB_; have BM := Aside0.mk hm; clear hb hm hg) | (refine insert_event2 rfl rfl hu hu5 rfl rfl BM.out (by kernel_rfl) ?_; intro wi hm hb ho; have n6_ := Aside0.mk ((ho g6 NM.out.1).trans BK6.out); have n7_ := Aside0.mk ((ho g7 NM.out.2.1).trans BK7.out); have n11_ := Aside0.mk ((ho g11 NM.out.2.2.1).trans BK11.out); have n12_ := Aside0.mk ((ho g12 NM.out.2.2.2).trans BK12.out); have nB_ := Aside0.mk (HB.out.trans (hb w.heap.size GEM.out.1)); have nM_ := Aside0.mk hm; clear BM HB BK6 BK7 BK11 BK12 hm hb ho; have BM := nM_; have HB := nB_; have BK6 := n6_; have BK7 := n7_; have BK11 := n11_; have BK12 := n12_; clear nM_ nB_ n6_ n7_ n11_ n12_) | ((with_reducible refine gate_dst (N := 46) rfl ?_); have e1 := (show _ = some (Obj.map (alu_condMap g6 g7 g11 g12) 11) from BM.out); refine lookup_event (t := 63) (kt := 5) (et := 23) (d := .int .u8) (m := .tmp 44) (k := .tmp 45) (z := .nilFunc) rfl rfl hu hu5 rfl (kv := .int .u8 a0) rfl rfl e1 (by kernel_rfl) HL ?_; clear e1 BM; simp only [looked]))
      go_ret2
      exact ⟨rfl, HB.out⟩
    | some r =>
      rw [hc] at h
      simp only [Option.some.injEq, Prod.mk.injEq] at h
      obtain ⟨rfl, rfl⟩ := h
      obtain ⟨i, f, fn, cap, HL, HF1, HF2, HF3, HF4⟩ := alu_cond_some g6 g7 g11 g12 hc
      clear hc
      go_wp2_with (first | ((with_reducible refine gate_dst (N := 32) rfl ?_); refine mkmap_event (N := 32) rfl rfl rfl ?_; intro gm hg wm hm hb; have GEM : Aside0 (w.heap.size ≤ gm ∧ gm = gm) := ⟨by rw [hg]; exact ⟨HB.out.size, rfl⟩⟩; have NM : Aside0 (g6 ≠ gm ∧ g7 ≠ gm ∧ g11 ≠ gm ∧ g12 ≠ gm) := ⟨by have p6_ := blk_lt BK6.out; have p7_ := blk_lt BK7.out; have p11_ := blk_lt BK11.out; have p12_ := blk_lt BK12.out; omega⟩; have n6_ := Aside0.mk (blk_below BK6.out hb); have n7_ := Aside0.mk (blk_below BK7.out hb); have n11_ := Aside0.mk (blk_below BK11.out hb); have n12_ := Aside0.mk (blk_below BK12.out hb); have nB_ := Aside0.mk (below_step HB.out hb); clear BK6 BK7 BK11 BK12 HB; have BK6 := n6_; have BK7 := n7_; have BK11 := n11_; have BK12 := n12_; have HB := nB_; clear n6_ n7_ n11_ n12_ nB_; have BM := Aside0.mk hm; clear hb hm hg) | (refine insert_event2 rfl rfl hu hu5 rfl rfl BM.out (by kernel_rfl) ?_; intro wi hm hb ho; have n6_ := Aside0.mk ((ho g6 NM.out.1).trans BK6.out); have n7_ := Aside0.mk ((ho g7 NM.out.2.1).trans BK7.out); have n11_ := Aside0.mk ((ho g11 NM.out.2.2.1).trans BK11.out); have n12_ := Aside0.mk ((ho g12 NM.out.2.2.2).trans BK12.out); have nB_ := Aside0.mk (HB.out.trans (hb w.heap.size GEM.out.1)); have nM_ := Aside0.mk hm; clear BM HB BK6 BK7 BK11 BK12 hm hb ho; have BM := nM_; have HB := nB_; have BK6 := n6_; have BK7 := n7_; have BK11 := n11_; have BK12 := n12_; clear nM_ nB_ n6_ n7_ n11_ n12_) | ((with_reducible refine gate_dst (N := 46) rfl ?_); have e1 := (show _ = some (Obj.map (alu_condMap g6 g7 g11 g12) 11) from BM.out); refine lookup_event (t := 63) (kt := 5) (et := 23) (d := .int .u8) (m := .tmp 44) (k := .tmp 45) (z := .nilFunc) rfl rfl hu hu5 rfl (kv := .int .u8 a0) rfl rfl e1 (by kernel_rfl) HL ?_; clear e1 BM; simp only [looked]) | ((with_reducible refine gate_dst (N := 52) rfl ?_); refine goesV_ (cap := cap) (some 52) rfl rfl HF1 HF2 HF3 cap rfl rfl (by simp) ?_; (with_reducible refine (HF4 _ BK6.out BK7.out BK11.out BK12.out).mono ?_); rintro e we ⟨rfl, hb⟩; refine ⟨_, rfl, ?_⟩; have nB_ := Aside0.mk (below_step HB.out hb); clear HB hb; have HB := nB_; clear nB_))
      go_ret2
      exact ⟨rfl, HB.out⟩
  case true =>
    replace hx := (show words_Zext.f a2 8 = some x from hx)
    replace hy := (show words_Zext.f a3 8 = some y from hy)
    replace hs := (show words_Sext.f x 8 = some s from hs)
    replace ht := (show words_Sext.f y 8 = some t from ht)
    have A1 := Aside0.mk hx
    have A2 := Aside0.mk hy
    have A3 := Aside0.mk hs
    have A4 := Aside0.mk ht
    clear hx hy hs ht
    go_enter Try.func16, Try.ntmps16
    go_wp2_with (first | ((with_reducible refine gate_dst (N := 6) rfl ?_); refine box_event ?hg (N := 6) ?hd (cs := #[.int .u64 a2]) (t := 22) ?hr ?_; (case hd => rfl); (case hg => rfl); (case hr => first | (go_simp; done) | (go_simp; rfl)); intro g6 hg wb hx hb; have GE6 : Aside0 (w.heap.size ≤ g6) := ⟨by rw [hg]; exact HB.out.size⟩; have n0_ := Aside0.mk (below_step HB.out hb); have BK6 := Aside0.mk hx; clear HB hx hb hg; have HB := n0_; clear n0_) | ((with_reducible refine gate_dst (N := 7) rfl ?_); refine box_event ?hg (N := 7) ?hd (cs := #[.int .u64 a3]) (t := 22) ?hr ?_; (case hd => rfl); (case hg => rfl); (case hr => first | (go_simp; done) | (go_simp; rfl)); intro g7 hg wb hx hb; have GE7 : Aside0 (w.heap.size ≤ g7) := ⟨by rw [hg]; exact HB.out.size⟩; have NE67 : Aside0 (g6 ≠ g7) := ⟨by have := blk_lt BK6.out; omega⟩; have n6_ := Aside0.mk (blk_below BK6.out hb); clear BK6; have BK6 := n6_; clear n6_; have n0_ := Aside0.mk (below_step HB.out hb); have BK7 := Aside0.mk hx; clear HB hx hb hg; have HB := n0_; clear n0_))
    refine start_ (n := 8) (S := fun w' => w'.cell? ⟨g6, 0, none⟩ = some (.int .u64 a2) ∧ w'.cell? ⟨g7, 0, none⟩ = some (.int .u64 a3)) (ds := [6, 7]) #[false, false, false, false, false, false, false, false] (by kernel_rfl) rfl rfl ⟨(blk_cell (blk_drew BK6.out) 0).trans rfl, (blk_cell (blk_drew BK7.out) 0).trans rfl⟩ (fun hHeld => ?_)
    have n6_ := Aside0.mk (blk_drew BK6.out)
    have n7_ := Aside0.mk (blk_drew BK7.out)
    have nB_ := Aside0.mk (below_drew1 HB.out)
    clear BK6 BK7 HB
    have BK6 := n6_
    have BK7 := n7_
    have HB := nB_
    clear n6_ n7_ nB_
    generalize World.drew _ = wr4 at BK6 BK7 HB hHeld ⊢
    refine pure_ (i := 1) (N := some 18) (v := ?_) (a' := ?_) #[false, true, false, false, false, false, false, false] rfl rfl (by kernel_rfl) (fun _ _ _ h => h) (Or.inl ⟨by rfl, ?_⟩) ?_ ?_
    rotate_left
    · intro w'
      go_simp
      with_reducible rfl
    rotate_left
    · simp only [Act.put, List.setIfInBounds_toArray, List.set_cons_zero, List.set_cons_succ, i64_w, i32_w]
      rfl
    refine pure_ (i := 4) (N := some 21) (v := ?_) (a' := ?_) #[false, true, false, false, true, false, false, false] rfl rfl (by kernel_rfl) (fun _ _ _ h => h) (Or.inl ⟨by rfl, ?_⟩) ?_ ?_
    rotate_left
    · intro w'
      go_simp
      with_reducible rfl
    rotate_left
    · simp only [Act.put, List.setIfInBounds_toArray, List.set_cons_zero, List.set_cons_succ, i64_w, i32_w]
      rfl
    refine take_ (i := 0) (N := some 17) (v := ?_) (a' := ?_) #[true, true, false, false, true, false, false, false] rfl rfl (by kernel_rfl) (fun _ _ _ h => h) (Or.inl ⟨by rfl, ?_⟩) hHeld ?_ ?_
    rotate_left
    · rintro w' ⟨s0, s1⟩
      go_simp
      with_reducible rfl
    rotate_left
    · simp only [Act.put, List.setIfInBounds_toArray, List.set_cons_zero, List.set_cons_succ, i64_w, i32_w]
      rfl
    refine take_ (i := 3) (N := some 20) (v := ?_) (a' := ?_) #[true, true, false, true, true, false, false, false] rfl rfl (by kernel_rfl) (fun _ _ _ h => h) (Or.inl ⟨by rfl, ?_⟩) hHeld ?_ ?_
    rotate_left
    · rintro w' ⟨s0, s1⟩
      go_simp
      with_reducible rfl
    rotate_left
    · simp only [Act.put, List.setIfInBounds_toArray, List.set_cons_zero, List.set_cons_succ, i64_w, i32_w]
      rfl
    refine one_ (i := 2) (N := some 19) #[true, true, true, true, true, false, false, false] rfl rfl (by kernel_rfl) (by decide) (fun K hK => ?_)
    refine goes_ Try.func36 (by kernel_rfl) rfl #[.int .u64 a2, .int .i64 8] (by rfl) rfl rfl (by (try simp only [List.map_toArray, List.map_cons, List.map_nil]); first | done | rfl) ?_
    with_reducible refine (words_Zext.calls a2 8 x _ A1.out).mono ?_
    rintro e wd ⟨rfl, hd⟩
    refine ⟨_, rfl, ?_⟩
    have hb := Drawn0.below hd
    clear hd
    have n6_ := Aside0.mk (blk_below BK6.out hb)
    have n7_ := Aside0.mk (blk_below BK7.out hb)
    have nB_ := Aside0.mk (below_step HB.out hb)
    clear BK6 BK7 HB
    have BK6 := n6_
    have BK7 := n7_
    have HB := nB_
    clear n6_ n7_ nB_
    clear hb
    refine hK.out _ _ ⟨(blk_cell BK6.out 0).trans rfl, (blk_cell BK7.out 0).trans rfl⟩ (fun hHeld => ?_)
    clear hK K
    refine norm_ (a' := ?_) ?_ ?_
    rotate_left
    · show Act.put _ (some 19) _ = _
      simp only [Act.put, List.setIfInBounds_toArray, List.set_cons_zero, List.set_cons_succ, i64_w, i32_w]
      rfl
    refine one_ (i := 5) (N := some 22) #[true, true, true, true, true, true, false, false] rfl rfl (by kernel_rfl) (by decide) (fun K hK => ?_)
    refine goes_ Try.func36 (by kernel_rfl) rfl #[.int .u64 a3, .int .i64 8] (by rfl) rfl rfl (by (try simp only [List.map_toArray, List.map_cons, List.map_nil]); first | done | rfl) ?_
    with_reducible refine (words_Zext.calls a3 8 y _ A2.out).mono ?_
    rintro e wd ⟨rfl, hd⟩
    refine ⟨_, rfl, ?_⟩
    have hb := Drawn0.below hd
    clear hd
    have n6_ := Aside0.mk (blk_below BK6.out hb)
    have n7_ := Aside0.mk (blk_below BK7.out hb)
    have nB_ := Aside0.mk (below_step HB.out hb)
    clear BK6 BK7 HB
    have BK6 := n6_
    have BK7 := n7_
    have HB := nB_
    clear n6_ n7_ nB_
    clear hb
    refine hK.out _ _ ⟨(blk_cell BK6.out 0).trans rfl, (blk_cell BK7.out 0).trans rfl⟩ (fun hHeld => ?_)
    clear hK K
    refine norm_ (a' := ?_) ?_ ?_
    rotate_left
    · show Act.put _ (some 22) _ = _
      simp only [Act.put, List.setIfInBounds_toArray, List.set_cons_zero, List.set_cons_succ, i64_w, i32_w]
      rfl
    have e6 := hHeld.1
    have e7 := hHeld.2
    have z6 := blk_frozen BK6.out 0
    have z7 := blk_frozen BK7.out 0
    have q67 := NE67.out
    have q76 := NE67.out.symm
    refine last_ (i := 6) (N := none) #[true, true, true, true, true, true, true, false] rfl rfl (by kernel_rfl) (by decide) (fun K hK => ?_)
    refine skip_ (w1 := ?_) (by rfl) rfl ?_ ?_
    rotate_left
    · go_simp
      rfl
    refine hK.out _ _ ?_
    clear hK K
    refine last_ (i := 7) (N := none) #[true, true, true, true, true, true, true, true] rfl rfl (by kernel_rfl) (by decide) (fun K hK => ?_)
    refine skip_ (w1 := ?_) (by rfl) rfl ?_ ?_
    rotate_left
    · go_simp
      rfl
    refine hK.out _ _ ?_
    clear hK K
    refine done_ (by kernel_rfl) ?_
    clear e6 e7 z6 z7 hHeld
    refine gate_world (fun W : World => W.heap[g6]? = some (.cells #[.int .u64 x] 22 (0, 0)) ∧ W.heap[g7]? = some (.cells #[.int .u64 y] 22 (0, 0)) ∧ Below w.heap.size w W) ⟨blk_far (blk_put (cs := #[.int .u64 a2]) BK6.out 0 _ rfl) q67 _, blk_put (cs := #[.int .u64 a3]) (blk_far BK7.out q76 _) 0 _ rfl, below_set (below_set HB.out GE6.out) GE7.out⟩ ?_
    rintro wr5 ⟨x6_, x7_, xb_⟩
    clear BK6 BK7 HB q67 q76
    have BK6 := Aside0.mk x6_
    have BK7 := Aside0.mk x7_
    have HB := Aside0.mk xb_
    clear x6_ x7_ xb_
    go_wp2
    refine start_ (n := 12) (S := fun w' => w'.cell? ⟨g6, 0, none⟩ = some (.int .u64 x) ∧ w'.cell? ⟨g7, 0, none⟩ = some (.int .u64 y)) (ds := [10, 11]) #[false, false, false, false, false, false, false, false, false, false, false, false] (by kernel_rfl) rfl rfl ⟨(blk_cell (blk_drew BK6.out) 0).trans rfl, (blk_cell (blk_drew BK7.out) 0).trans rfl⟩ (fun hHeld => ?_)
    have n6_ := Aside0.mk (blk_drew BK6.out)
    have n7_ := Aside0.mk (blk_drew BK7.out)
    have nB_ := Aside0.mk (below_drew1 HB.out)
    clear BK6 BK7 HB
    have BK6 := n6_
    have BK7 := n7_
    have HB := nB_
    clear n6_ n7_ nB_
    generalize World.drew _ = wr6 at BK6 BK7 HB hHeld ⊢
    refine pure_ (i := 1) (N := some 24) (v := ?_) (a' := ?_) #[false, true, false, false, false, false, false, false, false, false, false, false] rfl rfl (by kernel_rfl) (fun _ _ _ h => h) (Or.inl ⟨by rfl, ?_⟩) ?_ ?_
    rotate_left
    · intro w'
      go_simp
      with_reducible rfl
    rotate_left
    · simp only [Act.put, List.setIfInBounds_toArray, List.set_cons_zero, List.set_cons_succ, i64_w, i32_w]
      rfl
    refine pure_ (i := 5) (N := some 28) (v := ?_) (a' := ?_) #[false, true, false, false, false, true, false, false, false, false, false, false] rfl rfl (by kernel_rfl) (fun _ _ _ h => h) (Or.inl ⟨by rfl, ?_⟩) ?_ ?_
    rotate_left
    · intro w'
      go_simp
      with_reducible rfl
    rotate_left
    · simp only [Act.put, List.setIfInBounds_toArray, List.set_cons_zero, List.set_cons_succ, i64_w, i32_w]
      rfl
    refine take_ (i := 0) (N := some 23) (v := ?_) (a' := ?_) #[true, true, false, false, false, true, false, false, false, false, false, false] rfl rfl (by kernel_rfl) (fun _ _ _ h => h) (Or.inl ⟨by rfl, ?_⟩) hHeld ?_ ?_
    rotate_left
    · rintro w' ⟨s0, s1⟩
      go_simp
      with_reducible rfl
    rotate_left
    · simp only [Act.put, List.setIfInBounds_toArray, List.set_cons_zero, List.set_cons_succ, i64_w, i32_w]
      rfl
    refine take_ (i := 4) (N := some 27) (v := ?_) (a' := ?_) #[true, true, false, false, true, true, false, false, false, false, false, false] rfl rfl (by kernel_rfl) (fun _ _ _ h => h) (Or.inl ⟨by rfl, ?_⟩) hHeld ?_ ?_
    rotate_left
    · rintro w' ⟨s0, s1⟩
      go_simp
      with_reducible rfl
    rotate_left
    · simp only [Act.put, List.setIfInBounds_toArray, List.set_cons_zero, List.set_cons_succ, i64_w, i32_w]
      rfl
    refine join_ (σ := Nat × Nat) 2 #[true, true, true, true, true, true, true, true, true, true, false, false] (fun s_ => [(25, .int .u64 s), (29, .int .u64 t), (26, .int .i64 (wrap64 s)), (30, .int .i64 (wrap64 t)), (11, .pointer (some ⟨s_.1, 0, none⟩)), (12, .pointer (some ⟨s_.2, 0, none⟩))]) (fun s_ w' => w'.heap[g6]? = some (.cells #[.int .u64 x] 22 (0, 0)) ∧ w'.heap[g7]? = some (.cells #[.int .u64 y] 22 (0, 0)) ∧ w'.heap[s_.1]? = some (.cells #[.int .i64 0] 2 (0, 0)) ∧ w'.heap[s_.2]? = some (.cells #[.int .i64 0] 2 (0, 0)) ∧ s_.1 ≠ s_.2 ∧ w.heap.size ≤ s_.1 ∧ w.heap.size ≤ s_.2 ∧ (g6 < s_.1 ∧ g7 < s_.1) ∧ (g6 < s_.2 ∧ g7 < s_.2) ∧ Below w.heap.size w w') ?_ ?_
    rotate_left
    · intro hCont
      refine three_ (i := 2) (j := 8) (k := 9) (Ni := some 25) (Nj := some 11) (Nk := some 12) #[true, true, true, false, true, true, false, false, false, false, false, false] #[true, true, false, false, true, true, false, false, true, false, false, false] #[true, true, false, false, true, true, false, false, false, true, false, false] rfl rfl rfl rfl rfl rfl (by kernel_rfl) (by decide) (by decide) (by decide) (fun K hK => ?_) (fun K hK => ?_) (fun K hK => ?_)
      · skip
        refine goes_ Try.func41 (by kernel_rfl) rfl #[.int .u64 x, .int .i64 8] (by rfl) rfl rfl (by (try simp only [List.map_toArray, List.map_cons, List.map_nil]); first | done | rfl) ?_
        with_reducible refine (words_Sext.calls x 8 s _ A3.out).mono ?_
        rintro e wd ⟨rfl, hd⟩
        refine ⟨_, rfl, ?_⟩
        have hb := Drawn0.below hd
        clear hd
        have n6_ := Aside0.mk (blk_below BK6.out hb)
        have n7_ := Aside0.mk (blk_below BK7.out hb)
        have nB_ := Aside0.mk (below_step HB.out hb)
        clear BK6 BK7 HB
        have BK6 := n6_
        have BK7 := n7_
        have HB := nB_
        clear n6_ n7_ nB_
        clear hb
        refine hK.out _ _ ⟨(blk_cell BK6.out 0).trans rfl, (blk_cell BK7.out 0).trans rfl⟩ (fun hHeld => ?_)
        clear hK K
        refine norm_ (a' := ?_) ?_ ?_
        rotate_left
        · show Act.put _ (some 25) _ = _
          simp only [Act.put, List.setIfInBounds_toArray, List.set_cons_zero, List.set_cons_succ, i64_w, i32_w]
          rfl
        refine pure_ (i := 3) (N := some 26) (v := ?_) (a' := ?_) #[true, true, true, true, true, true, false, false, false, false, false, false] rfl rfl (by kernel_rfl) (fun _ _ _ h => h) (Or.inl ⟨by rfl, ?_⟩) ?_ ?_
        rotate_left
        · intro w'
          go_simp
          with_reducible rfl
        rotate_left
        · simp only [Act.put, List.setIfInBounds_toArray, List.set_cons_zero, List.set_cons_succ, i64_w, i32_w]
          rfl
        refine three_ (i := 6) (j := 8) (k := 9) (Ni := some 29) (Nj := some 11) (Nk := some 12) #[true, true, true, true, true, true, true, false, false, false, false, false] #[true, true, true, true, true, true, false, false, true, false, false, false] #[true, true, true, true, true, true, false, false, false, true, false, false] rfl rfl rfl rfl rfl rfl (by kernel_rfl) (by decide) (by decide) (by decide) (fun K hK => ?_) (fun K hK => ?_) (fun K hK => ?_)
        · skip
          refine goes_ Try.func41 (by kernel_rfl) rfl #[.int .u64 y, .int .i64 8] (by rfl) rfl rfl (by (try simp only [List.map_toArray, List.map_cons, List.map_nil]); first | done | rfl) ?_
          with_reducible refine (words_Sext.calls y 8 t _ A4.out).mono ?_
          rintro e wd ⟨rfl, hd⟩
          refine ⟨_, rfl, ?_⟩
          have hb := Drawn0.below hd
          clear hd
          have n6_ := Aside0.mk (blk_below BK6.out hb)
          have n7_ := Aside0.mk (blk_below BK7.out hb)
          have nB_ := Aside0.mk (below_step HB.out hb)
          clear BK6 BK7 HB
          have BK6 := n6_
          have BK7 := n7_
          have HB := nB_
          clear n6_ n7_ nB_
          clear hb
          refine hK.out _ _ ⟨(blk_cell BK6.out 0).trans rfl, (blk_cell BK7.out 0).trans rfl⟩ (fun hHeld => ?_)
          clear hK K
          refine norm_ (a' := ?_) ?_ ?_
          rotate_left
          · show Act.put _ (some 29) _ = _
            simp only [Act.put, List.setIfInBounds_toArray, List.set_cons_zero, List.set_cons_succ, i64_w, i32_w]
            rfl
          refine pure_ (i := 7) (N := some 30) (v := ?_) (a' := ?_) #[true, true, true, true, true, true, true, true, false, false, false, false] rfl rfl (by kernel_rfl) (fun _ _ _ h => h) (Or.inl ⟨by rfl, ?_⟩) ?_ ?_
          rotate_left
          · intro w'
            go_simp
            with_reducible rfl
          rotate_left
          · simp only [Act.put, List.setIfInBounds_toArray, List.set_cons_zero, List.set_cons_succ, i64_w, i32_w]
            rfl
          refine two_ (i := 8) (j := 9) (Ni := some 11) (Nj := some 12) #[true, true, true, true, true, true, true, true, true, false, false, false] #[true, true, true, true, true, true, true, true, false, true, false, false] rfl rfl rfl rfl (by kernel_rfl) (by decide) (by decide) (fun K hK => ?_) (fun K hK => ?_)
          · skip
            refine box_step (by rfl) (N := 11) rfl (cs := #[.int .i64 0]) (t := 2) (by first | (go_simp; done) | (go_simp; rfl)) ?_
            intro g11 hg wd hx hb
            have GE11 : Aside0 (w.heap.size ≤ g11) := ⟨by rw [hg]; exact HB.out.size⟩
            have LT11 : Aside0 (g6 < g11 ∧ g7 < g11) := ⟨by have p6_ := blk_lt BK6.out; have p7_ := blk_lt BK7.out; omega⟩
            have n6_ := Aside0.mk (blk_below BK6.out hb)
            have n7_ := Aside0.mk (blk_below BK7.out hb)
            have nB_ := Aside0.mk (below_step HB.out hb)
            clear BK6 BK7 HB
            have BK6 := n6_
            have BK7 := n7_
            have HB := nB_
            clear n6_ n7_ nB_
            have BK11 := Aside0.mk hx
            clear hb hx hg
            refine hK.out _ _ ⟨(blk_cell BK6.out 0).trans rfl, (blk_cell BK7.out 0).trans rfl⟩ (fun hHeld => ?_)
            clear hK K
            refine norm_ (a' := ?_) ?_ ?_
            rotate_left
            · show Act.put _ (some 11) _ = _
              simp only [Act.put, List.setIfInBounds_toArray, List.set_cons_zero, List.set_cons_succ, i64_w, i32_w]
              rfl
            refine one_ (i := 9) (N := some 12) #[true, true, true, true, true, true, true, true, true, true, false, false] rfl rfl (by kernel_rfl) (by decide) (fun K hK => ?_)
            refine box_step (by rfl) (N := 12) rfl (cs := #[.int .i64 0]) (t := 2) (by first | (go_simp; done) | (go_simp; rfl)) ?_
            intro g12 hg wd hx hb
            have NEQ : Aside0 (g11 ≠ g12) := ⟨by have := blk_lt BK11.out; omega⟩
            have GE12 : Aside0 (w.heap.size ≤ g12) := ⟨by rw [hg]; exact HB.out.size⟩
            have LT12 : Aside0 (g6 < g12 ∧ g7 < g12) := ⟨by have p6_ := blk_lt BK6.out; have p7_ := blk_lt BK7.out; omega⟩
            have n6_ := Aside0.mk (blk_below BK6.out hb)
            have n7_ := Aside0.mk (blk_below BK7.out hb)
            have n11_ := Aside0.mk (blk_below BK11.out hb)
            have nB_ := Aside0.mk (below_step HB.out hb)
            clear BK6 BK7 BK11 HB
            have BK6 := n6_
            have BK7 := n7_
            have BK11 := n11_
            have HB := nB_
            clear n6_ n7_ n11_ nB_
            have BK12 := Aside0.mk hx
            clear hb hx hg
            refine hK.out _ _ ⟨(blk_cell BK6.out 0).trans rfl, (blk_cell BK7.out 0).trans rfl⟩ (fun hHeld => ?_)
            clear hK K
            refine norm_ (a' := ?_) ?_ ?_
            rotate_left
            · show Act.put _ (some 12) _ = _
              simp only [Act.put, List.setIfInBounds_toArray, List.set_cons_zero, List.set_cons_succ, i64_w, i32_w]
              rfl
            exact norm_ (by simp only [putAll, Act.put, List.setIfInBounds_toArray, List.set_cons_zero, List.set_cons_succ]) (hCont (g11, g12) _ ⟨BK6.out, BK7.out, BK11.out, BK12.out, NEQ.out, GE11.out, GE12.out, LT11.out, LT12.out, HB.out⟩)
          · skip
            refine box_step (by rfl) (N := 12) rfl (cs := #[.int .i64 0]) (t := 2) (by first | (go_simp; done) | (go_simp; rfl)) ?_
            intro g12 hg wd hx hb
            have GE12 : Aside0 (w.heap.size ≤ g12) := ⟨by rw [hg]; exact HB.out.size⟩
            have LT12 : Aside0 (g6 < g12 ∧ g7 < g12) := ⟨by have p6_ := blk_lt BK6.out; have p7_ := blk_lt BK7.out; omega⟩
            have n6_ := Aside0.mk (blk_below BK6.out hb)
            have n7_ := Aside0.mk (blk_below BK7.out hb)
            have nB_ := Aside0.mk (below_step HB.out hb)
            clear BK6 BK7 HB
            have BK6 := n6_
            have BK7 := n7_
            have HB := nB_
            clear n6_ n7_ nB_
            have BK12 := Aside0.mk hx
            clear hb hx hg
            refine hK.out _ _ ⟨(blk_cell BK6.out 0).trans rfl, (blk_cell BK7.out 0).trans rfl⟩ (fun hHeld => ?_)
            clear hK K
            refine norm_ (a' := ?_) ?_ ?_
            rotate_left
            · show Act.put _ (some 12) _ = _
              simp only [Act.put, List.setIfInBounds_toArray, List.set_cons_zero, List.set_cons_succ, i64_w, i32_w]
              rfl
            refine one_ (i := 8) (N := some 11) #[true, true, true, true, true, true, true, true, true, true, false, false] rfl rfl (by kernel_rfl) (by decide) (fun K hK => ?_)
            refine box_step (by rfl) (N := 11) rfl (cs := #[.int .i64 0]) (t := 2) (by first | (go_simp; done) | (go_simp; rfl)) ?_
            intro g11 hg wd hx hb
            have NEQ : Aside0 (g11 ≠ g12) := ⟨by have := blk_lt BK12.out; omega⟩
            have GE11 : Aside0 (w.heap.size ≤ g11) := ⟨by rw [hg]; exact HB.out.size⟩
            have LT11 : Aside0 (g6 < g11 ∧ g7 < g11) := ⟨by have p6_ := blk_lt BK6.out; have p7_ := blk_lt BK7.out; omega⟩
            have n6_ := Aside0.mk (blk_below BK6.out hb)
            have n7_ := Aside0.mk (blk_below BK7.out hb)
            have n12_ := Aside0.mk (blk_below BK12.out hb)
            have nB_ := Aside0.mk (below_step HB.out hb)
            clear BK6 BK7 BK12 HB
            have BK6 := n6_
            have BK7 := n7_
            have BK12 := n12_
            have HB := nB_
            clear n6_ n7_ n12_ nB_
            have BK11 := Aside0.mk hx
            clear hb hx hg
            refine hK.out _ _ ⟨(blk_cell BK6.out 0).trans rfl, (blk_cell BK7.out 0).trans rfl⟩ (fun hHeld => ?_)
            clear hK K
            refine norm_ (a' := ?_) ?_ ?_
            rotate_left
            · show Act.put _ (some 11) _ = _
              simp only [Act.put, List.setIfInBounds_toArray, List.set_cons_zero, List.set_cons_succ, i64_w, i32_w]
              rfl
            exact norm_ (by simp only [putAll, Act.put, List.setIfInBounds_toArray, List.set_cons_zero, List.set_cons_succ]) (hCont (g11, g12) _ ⟨BK6.out, BK7.out, BK11.out, BK12.out, NEQ.out, GE11.out, GE12.out, LT11.out, LT12.out, HB.out⟩)
        · skip
          refine box_step (by rfl) (N := 11) rfl (cs := #[.int .i64 0]) (t := 2) (by first | (go_simp; done) | (go_simp; rfl)) ?_
          intro g11 hg wd hx hb
          have GE11 : Aside0 (w.heap.size ≤ g11) := ⟨by rw [hg]; exact HB.out.size⟩
          have LT11 : Aside0 (g6 < g11 ∧ g7 < g11) := ⟨by have p6_ := blk_lt BK6.out; have p7_ := blk_lt BK7.out; omega⟩
          have n6_ := Aside0.mk (blk_below BK6.out hb)
          have n7_ := Aside0.mk (blk_below BK7.out hb)
          have nB_ := Aside0.mk (below_step HB.out hb)
          clear BK6 BK7 HB
          have BK6 := n6_
          have BK7 := n7_
          have HB := nB_
          clear n6_ n7_ nB_
          have BK11 := Aside0.mk hx
          clear hb hx hg
          refine hK.out _ _ ⟨(blk_cell BK6.out 0).trans rfl, (blk_cell BK7.out 0).trans rfl⟩ (fun hHeld => ?_)
          clear hK K
          refine norm_ (a' := ?_) ?_ ?_
          rotate_left
          · show Act.put _ (some 11) _ = _
            simp only [Act.put, List.setIfInBounds_toArray, List.set_cons_zero, List.set_cons_succ, i64_w, i32_w]
            rfl
          refine two_ (i := 6) (j := 9) (Ni := some 29) (Nj := some 12) #[true, true, true, true, true, true, true, false, true, false, false, false] #[true, true, true, true, true, true, false, false, true, true, false, false] rfl rfl rfl rfl (by kernel_rfl) (by decide) (by decide) (fun K hK => ?_) (fun K hK => ?_)
          · skip
            refine goes_ Try.func41 (by kernel_rfl) rfl #[.int .u64 y, .int .i64 8] (by rfl) rfl rfl (by (try simp only [List.map_toArray, List.map_cons, List.map_nil]); first | done | rfl) ?_
            with_reducible refine (words_Sext.calls y 8 t _ A4.out).mono ?_
            rintro e wd ⟨rfl, hd⟩
            refine ⟨_, rfl, ?_⟩
            have hb := Drawn0.below hd
            clear hd
            have n6_ := Aside0.mk (blk_below BK6.out hb)
            have n7_ := Aside0.mk (blk_below BK7.out hb)
            have n11_ := Aside0.mk (blk_below BK11.out hb)
            have nB_ := Aside0.mk (below_step HB.out hb)
            clear BK6 BK7 BK11 HB
            have BK6 := n6_
            have BK7 := n7_
            have BK11 := n11_
            have HB := nB_
            clear n6_ n7_ n11_ nB_
            clear hb
            refine hK.out _ _ ⟨(blk_cell BK6.out 0).trans rfl, (blk_cell BK7.out 0).trans rfl⟩ (fun hHeld => ?_)
            clear hK K
            refine norm_ (a' := ?_) ?_ ?_
            rotate_left
            · show Act.put _ (some 29) _ = _
              simp only [Act.put, List.setIfInBounds_toArray, List.set_cons_zero, List.set_cons_succ, i64_w, i32_w]
              rfl
            refine pure_ (i := 7) (N := some 30) (v := ?_) (a' := ?_) #[true, true, true, true, true, true, true, true, true, false, false, false] rfl rfl (by kernel_rfl) (fun _ _ _ h => h) (Or.inl ⟨by rfl, ?_⟩) ?_ ?_
            rotate_left
            · intro w'
              go_simp
              with_reducible rfl
            rotate_left
            · simp only [Act.put, List.setIfInBounds_toArray, List.set_cons_zero, List.set_cons_succ, i64_w, i32_w]
              rfl
            refine one_ (i := 9) (N := some 12) #[true, true, true, true, true, true, true, true, true, true, false, false] rfl rfl (by kernel_rfl) (by decide) (fun K hK => ?_)
            refine box_step (by rfl) (N := 12) rfl (cs := #[.int .i64 0]) (t := 2) (by first | (go_simp; done) | (go_simp; rfl)) ?_
            intro g12 hg wd hx hb
            have NEQ : Aside0 (g11 ≠ g12) := ⟨by have := blk_lt BK11.out; omega⟩
            have GE12 : Aside0 (w.heap.size ≤ g12) := ⟨by rw [hg]; exact HB.out.size⟩
            have LT12 : Aside0 (g6 < g12 ∧ g7 < g12) := ⟨by have p6_ := blk_lt BK6.out; have p7_ := blk_lt BK7.out; omega⟩
            have n6_ := Aside0.mk (blk_below BK6.out hb)
            have n7_ := Aside0.mk (blk_below BK7.out hb)
            have n11_ := Aside0.mk (blk_below BK11.out hb)
            have nB_ := Aside0.mk (below_step HB.out hb)
            clear BK6 BK7 BK11 HB
            have BK6 := n6_
            have BK7 := n7_
            have BK11 := n11_
            have HB := nB_
            clear n6_ n7_ n11_ nB_
            have BK12 := Aside0.mk hx
            clear hb hx hg
            refine hK.out _ _ ⟨(blk_cell BK6.out 0).trans rfl, (blk_cell BK7.out 0).trans rfl⟩ (fun hHeld => ?_)
            clear hK K
            refine norm_ (a' := ?_) ?_ ?_
            rotate_left
            · show Act.put _ (some 12) _ = _
              simp only [Act.put, List.setIfInBounds_toArray, List.set_cons_zero, List.set_cons_succ, i64_w, i32_w]
              rfl
            exact norm_ (by simp only [putAll, Act.put, List.setIfInBounds_toArray, List.set_cons_zero, List.set_cons_succ]) (hCont (g11, g12) _ ⟨BK6.out, BK7.out, BK11.out, BK12.out, NEQ.out, GE11.out, GE12.out, LT11.out, LT12.out, HB.out⟩)
          · skip
            refine box_step (by rfl) (N := 12) rfl (cs := #[.int .i64 0]) (t := 2) (by first | (go_simp; done) | (go_simp; rfl)) ?_
            intro g12 hg wd hx hb
            have NEQ : Aside0 (g11 ≠ g12) := ⟨by have := blk_lt BK11.out; omega⟩
            have GE12 : Aside0 (w.heap.size ≤ g12) := ⟨by rw [hg]; exact HB.out.size⟩
            have LT12 : Aside0 (g6 < g12 ∧ g7 < g12) := ⟨by have p6_ := blk_lt BK6.out; have p7_ := blk_lt BK7.out; omega⟩
            have n6_ := Aside0.mk (blk_below BK6.out hb)
            have n7_ := Aside0.mk (blk_below BK7.out hb)
            have n11_ := Aside0.mk (blk_below BK11.out hb)
            have nB_ := Aside0.mk (below_step HB.out hb)
            clear BK6 BK7 BK11 HB
            have BK6 := n6_
            have BK7 := n7_
            have BK11 := n11_
            have HB := nB_
            clear n6_ n7_ n11_ nB_
            have BK12 := Aside0.mk hx
            clear hb hx hg
            refine hK.out _ _ ⟨(blk_cell BK6.out 0).trans rfl, (blk_cell BK7.out 0).trans rfl⟩ (fun hHeld => ?_)
            clear hK K
            refine norm_ (a' := ?_) ?_ ?_
            rotate_left
            · show Act.put _ (some 12) _ = _
              simp only [Act.put, List.setIfInBounds_toArray, List.set_cons_zero, List.set_cons_succ, i64_w, i32_w]
              rfl
            refine one_ (i := 6) (N := some 29) #[true, true, true, true, true, true, true, false, true, true, false, false] rfl rfl (by kernel_rfl) (by decide) (fun K hK => ?_)
            refine goes_ Try.func41 (by kernel_rfl) rfl #[.int .u64 y, .int .i64 8] (by rfl) rfl rfl (by (try simp only [List.map_toArray, List.map_cons, List.map_nil]); first | done | rfl) ?_
            with_reducible refine (words_Sext.calls y 8 t _ A4.out).mono ?_
            rintro e wd ⟨rfl, hd⟩
            refine ⟨_, rfl, ?_⟩
            have hb := Drawn0.below hd
            clear hd
            have n6_ := Aside0.mk (blk_below BK6.out hb)
            have n7_ := Aside0.mk (blk_below BK7.out hb)
            have n11_ := Aside0.mk (blk_below BK11.out hb)
            have n12_ := Aside0.mk (blk_below BK12.out hb)
            have nB_ := Aside0.mk (below_step HB.out hb)
            clear BK6 BK7 BK11 BK12 HB
            have BK6 := n6_
            have BK7 := n7_
            have BK11 := n11_
            have BK12 := n12_
            have HB := nB_
            clear n6_ n7_ n11_ n12_ nB_
            clear hb
            refine hK.out _ _ ⟨(blk_cell BK6.out 0).trans rfl, (blk_cell BK7.out 0).trans rfl⟩ (fun hHeld => ?_)
            clear hK K
            refine norm_ (a' := ?_) ?_ ?_
            rotate_left
            · show Act.put _ (some 29) _ = _
              simp only [Act.put, List.setIfInBounds_toArray, List.set_cons_zero, List.set_cons_succ, i64_w, i32_w]
              rfl
            refine pure_ (i := 7) (N := some 30) (v := ?_) (a' := ?_) #[true, true, true, true, true, true, true, true, true, true, false, false] rfl rfl (by kernel_rfl) (fun _ _ _ h => h) (Or.inl ⟨by rfl, ?_⟩) ?_ ?_
            rotate_left
            · intro w'
              go_simp
              with_reducible rfl
            rotate_left
            · simp only [Act.put, List.setIfInBounds_toArray, List.set_cons_zero, List.set_cons_succ, i64_w, i32_w]
              rfl
            exact norm_ (by simp only [putAll, Act.put, List.setIfInBounds_toArray, List.set_cons_zero, List.set_cons_succ]) (hCont (g11, g12) _ ⟨BK6.out, BK7.out, BK11.out, BK12.out, NEQ.out, GE11.out, GE12.out, LT11.out, LT12.out, HB.out⟩)
        · skip
          refine box_step (by rfl) (N := 12) rfl (cs := #[.int .i64 0]) (t := 2) (by first | (go_simp; done) | (go_simp; rfl)) ?_
          intro g12 hg wd hx hb
          have GE12 : Aside0 (w.heap.size ≤ g12) := ⟨by rw [hg]; exact HB.out.size⟩
          have LT12 : Aside0 (g6 < g12 ∧ g7 < g12) := ⟨by have p6_ := blk_lt BK6.out; have p7_ := blk_lt BK7.out; omega⟩
          have n6_ := Aside0.mk (blk_below BK6.out hb)
          have n7_ := Aside0.mk (blk_below BK7.out hb)
          have nB_ := Aside0.mk (below_step HB.out hb)
          clear BK6 BK7 HB
          have BK6 := n6_
          have BK7 := n7_
          have HB := nB_
          clear n6_ n7_ nB_
          have BK12 := Aside0.mk hx
          clear hb hx hg
          refine hK.out _ _ ⟨(blk_cell BK6.out 0).trans rfl, (blk_cell BK7.out 0).trans rfl⟩ (fun hHeld => ?_)
          clear hK K
          refine norm_ (a' := ?_) ?_ ?_
          rotate_left
          · show Act.put _ (some 12) _ = _
            simp only [Act.put, List.setIfInBounds_toArray, List.set_cons_zero, List.set_cons_succ, i64_w, i32_w]
            rfl
          refine two_ (i := 6) (j := 8) (Ni := some 29) (Nj := some 11) #[true, true, true, true, true, true, true, false, false, true, false, false] #[true, true, true, true, true, true, false, false, true, true, false, false] rfl rfl rfl rfl (by kernel_rfl) (by decide) (by decide) (fun K hK => ?_) (fun K hK => ?_)
          · skip
            refine goes_ Try.func41 (by kernel_rfl) rfl #[.int .u64 y, .int .i64 8] (by rfl) rfl rfl (by (try simp only [List.map_toArray, List.map_cons, List.map_nil]); first | done | rfl) ?_
            with_reducible refine (words_Sext.calls y 8 t _ A4.out).mono ?_
            rintro e wd ⟨rfl, hd⟩
            refine ⟨_, rfl, ?_⟩
            have hb := Drawn0.below hd
            clear hd
            have n6_ := Aside0.mk (blk_below BK6.out hb)
            have n7_ := Aside0.mk (blk_below BK7.out hb)
            have n12_ := Aside0.mk (blk_below BK12.out hb)
            have nB_ := Aside0.mk (below_step HB.out hb)
            clear BK6 BK7 BK12 HB
            have BK6 := n6_
            have BK7 := n7_
            have BK12 := n12_
            have HB := nB_
            clear n6_ n7_ n12_ nB_
            clear hb
            refine hK.out _ _ ⟨(blk_cell BK6.out 0).trans rfl, (blk_cell BK7.out 0).trans rfl⟩ (fun hHeld => ?_)
            clear hK K
            refine norm_ (a' := ?_) ?_ ?_
            rotate_left
            · show Act.put _ (some 29) _ = _
              simp only [Act.put, List.setIfInBounds_toArray, List.set_cons_zero, List.set_cons_succ, i64_w, i32_w]
              rfl
            refine pure_ (i := 7) (N := some 30) (v := ?_) (a' := ?_) #[true, true, true, true, true, true, true, true, false, true, false, false] rfl rfl (by kernel_rfl) (fun _ _ _ h => h) (Or.inl ⟨by rfl, ?_⟩) ?_ ?_
            rotate_left
            · intro w'
              go_simp
              with_reducible rfl
            rotate_left
            · simp only [Act.put, List.setIfInBounds_toArray, List.set_cons_zero, List.set_cons_succ, i64_w, i32_w]
              rfl
            refine one_ (i := 8) (N := some 11) #[true, true, true, true, true, true, true, true, true, true, false, false] rfl rfl (by kernel_rfl) (by decide) (fun K hK => ?_)
            refine box_step (by rfl) (N := 11) rfl (cs := #[.int .i64 0]) (t := 2) (by first | (go_simp; done) | (go_simp; rfl)) ?_
            intro g11 hg wd hx hb
            have NEQ : Aside0 (g11 ≠ g12) := ⟨by have := blk_lt BK12.out; omega⟩
            have GE11 : Aside0 (w.heap.size ≤ g11) := ⟨by rw [hg]; exact HB.out.size⟩
            have LT11 : Aside0 (g6 < g11 ∧ g7 < g11) := ⟨by have p6_ := blk_lt BK6.out; have p7_ := blk_lt BK7.out; omega⟩
            have n6_ := Aside0.mk (blk_below BK6.out hb)
            have n7_ := Aside0.mk (blk_below BK7.out hb)
            have n12_ := Aside0.mk (blk_below BK12.out hb)
            have nB_ := Aside0.mk (below_step HB.out hb)
            clear BK6 BK7 BK12 HB
            have BK6 := n6_
            have BK7 := n7_
            have BK12 := n12_
            have HB := nB_
            clear n6_ n7_ n12_ nB_
            have BK11 := Aside0.mk hx
            clear hb hx hg
            refine hK.out _ _ ⟨(blk_cell BK6.out 0).trans rfl, (blk_cell BK7.out 0).trans rfl⟩ (fun hHeld => ?_)
            clear hK K
            refine norm_ (a' := ?_) ?_ ?_
            rotate_left
            · show Act.put _ (some 11) _ = _
              simp only [Act.put, List.setIfInBounds_toArray, List.set_cons_zero, List.set_cons_succ, i64_w, i32_w]
              rfl
            exact norm_ (by simp only [putAll, Act.put, List.setIfInBounds_toArray, List.set_cons_zero, List.set_cons_succ]) (hCont (g11, g12) _ ⟨BK6.out, BK7.out, BK11.out, BK12.out, NEQ.out, GE11.out, GE12.out, LT11.out, LT12.out, HB.out⟩)
          · skip
            refine box_step (by rfl) (N := 11) rfl (cs := #[.int .i64 0]) (t := 2) (by first | (go_simp; done) | (go_simp; rfl)) ?_
            intro g11 hg wd hx hb
            have NEQ : Aside0 (g11 ≠ g12) := ⟨by have := blk_lt BK12.out; omega⟩
            have GE11 : Aside0 (w.heap.size ≤ g11) := ⟨by rw [hg]; exact HB.out.size⟩
            have LT11 : Aside0 (g6 < g11 ∧ g7 < g11) := ⟨by have p6_ := blk_lt BK6.out; have p7_ := blk_lt BK7.out; omega⟩
            have n6_ := Aside0.mk (blk_below BK6.out hb)
            have n7_ := Aside0.mk (blk_below BK7.out hb)
            have n12_ := Aside0.mk (blk_below BK12.out hb)
            have nB_ := Aside0.mk (below_step HB.out hb)
            clear BK6 BK7 BK12 HB
            have BK6 := n6_
            have BK7 := n7_
            have BK12 := n12_
            have HB := nB_
            clear n6_ n7_ n12_ nB_
            have BK11 := Aside0.mk hx
            clear hb hx hg
            refine hK.out _ _ ⟨(blk_cell BK6.out 0).trans rfl, (blk_cell BK7.out 0).trans rfl⟩ (fun hHeld => ?_)
            clear hK K
            refine norm_ (a' := ?_) ?_ ?_
            rotate_left
            · show Act.put _ (some 11) _ = _
              simp only [Act.put, List.setIfInBounds_toArray, List.set_cons_zero, List.set_cons_succ, i64_w, i32_w]
              rfl
            refine one_ (i := 6) (N := some 29) #[true, true, true, true, true, true, true, false, true, true, false, false] rfl rfl (by kernel_rfl) (by decide) (fun K hK => ?_)
            refine goes_ Try.func41 (by kernel_rfl) rfl #[.int .u64 y, .int .i64 8] (by rfl) rfl rfl (by (try simp only [List.map_toArray, List.map_cons, List.map_nil]); first | done | rfl) ?_
            with_reducible refine (words_Sext.calls y 8 t _ A4.out).mono ?_
            rintro e wd ⟨rfl, hd⟩
            refine ⟨_, rfl, ?_⟩
            have hb := Drawn0.below hd
            clear hd
            have n6_ := Aside0.mk (blk_below BK6.out hb)
            have n7_ := Aside0.mk (blk_below BK7.out hb)
            have n12_ := Aside0.mk (blk_below BK12.out hb)
            have n11_ := Aside0.mk (blk_below BK11.out hb)
            have nB_ := Aside0.mk (below_step HB.out hb)
            clear BK6 BK7 BK12 BK11 HB
            have BK6 := n6_
            have BK7 := n7_
            have BK12 := n12_
            have BK11 := n11_
            have HB := nB_
            clear n6_ n7_ n12_ n11_ nB_
            clear hb
            refine hK.out _ _ ⟨(blk_cell BK6.out 0).trans rfl, (blk_cell BK7.out 0).trans rfl⟩ (fun hHeld => ?_)
            clear hK K
            refine norm_ (a' := ?_) ?_ ?_
            rotate_left
            · show Act.put _ (some 29) _ = _
              simp only [Act.put, List.setIfInBounds_toArray, List.set_cons_zero, List.set_cons_succ, i64_w, i32_w]
              rfl
            refine pure_ (i := 7) (N := some 30) (v := ?_) (a' := ?_) #[true, true, true, true, true, true, true, true, true, true, false, false] rfl rfl (by kernel_rfl) (fun _ _ _ h => h) (Or.inl ⟨by rfl, ?_⟩) ?_ ?_
            rotate_left
            · intro w'
              go_simp
              with_reducible rfl
            rotate_left
            · simp only [Act.put, List.setIfInBounds_toArray, List.set_cons_zero, List.set_cons_succ, i64_w, i32_w]
              rfl
            exact norm_ (by simp only [putAll, Act.put, List.setIfInBounds_toArray, List.set_cons_zero, List.set_cons_succ]) (hCont (g11, g12) _ ⟨BK6.out, BK7.out, BK11.out, BK12.out, NEQ.out, GE11.out, GE12.out, LT11.out, LT12.out, HB.out⟩)
      · skip
        refine box_step (by rfl) (N := 11) rfl (cs := #[.int .i64 0]) (t := 2) (by first | (go_simp; done) | (go_simp; rfl)) ?_
        intro g11 hg wd hx hb
        have GE11 : Aside0 (w.heap.size ≤ g11) := ⟨by rw [hg]; exact HB.out.size⟩
        have LT11 : Aside0 (g6 < g11 ∧ g7 < g11) := ⟨by have p6_ := blk_lt BK6.out; have p7_ := blk_lt BK7.out; omega⟩
        have n6_ := Aside0.mk (blk_below BK6.out hb)
        have n7_ := Aside0.mk (blk_below BK7.out hb)
        have nB_ := Aside0.mk (below_step HB.out hb)
        clear BK6 BK7 HB
        have BK6 := n6_
        have BK7 := n7_
        have HB := nB_
        clear n6_ n7_ nB_
        have BK11 := Aside0.mk hx
        clear hb hx hg
        refine hK.out _ _ ⟨(blk_cell BK6.out 0).trans rfl, (blk_cell BK7.out 0).trans rfl⟩ (fun hHeld => ?_)
        clear hK K
        refine norm_ (a' := ?_) ?_ ?_
        rotate_left
        · show Act.put _ (some 11) _ = _
          simp only [Act.put, List.setIfInBounds_toArray, List.set_cons_zero, List.set_cons_succ, i64_w, i32_w]
          rfl
        refine two_ (i := 2) (j := 9) (Ni := some 25) (Nj := some 12) #[true, true, true, false, true, true, false, false, true, false, false, false] #[true, true, false, false, true, true, false, false, true, true, false, false] rfl rfl rfl rfl (by kernel_rfl) (by decide) (by decide) (fun K hK => ?_) (fun K hK => ?_)
        · skip
          refine goes_ Try.func41 (by kernel_rfl) rfl #[.int .u64 x, .int .i64 8] (by rfl) rfl rfl (by (try simp only [List.map_toArray, List.map_cons, List.map_nil]); first | done | rfl) ?_
          with_reducible refine (words_Sext.calls x 8 s _ A3.out).mono ?_
          rintro e wd ⟨rfl, hd⟩
          refine ⟨_, rfl, ?_⟩
          have hb := Drawn0.below hd
          clear hd
          have n6_ := Aside0.mk (blk_below BK6.out hb)
          have n7_ := Aside0.mk (blk_below BK7.out hb)
          have n11_ := Aside0.mk (blk_below BK11.out hb)
          have nB_ := Aside0.mk (below_step HB.out hb)
          clear BK6 BK7 BK11 HB
          have BK6 := n6_
          have BK7 := n7_
          have BK11 := n11_
          have HB := nB_
          clear n6_ n7_ n11_ nB_
          clear hb
          refine hK.out _ _ ⟨(blk_cell BK6.out 0).trans rfl, (blk_cell BK7.out 0).trans rfl⟩ (fun hHeld => ?_)
          clear hK K
          refine norm_ (a' := ?_) ?_ ?_
          rotate_left
          · show Act.put _ (some 25) _ = _
            simp only [Act.put, List.setIfInBounds_toArray, List.set_cons_zero, List.set_cons_succ, i64_w, i32_w]
            rfl
          refine pure_ (i := 3) (N := some 26) (v := ?_) (a' := ?_) #[true, true, true, true, true, true, false, false, true, false, false, false] rfl rfl (by kernel_rfl) (fun _ _ _ h => h) (Or.inl ⟨by rfl, ?_⟩) ?_ ?_
          rotate_left
          · intro w'
            go_simp
            with_reducible rfl
          rotate_left
          · simp only [Act.put, List.setIfInBounds_toArray, List.set_cons_zero, List.set_cons_succ, i64_w, i32_w]
            rfl
          refine two_ (i := 6) (j := 9) (Ni := some 29) (Nj := some 12) #[true, true, true, true, true, true, true, false, true, false, false, false] #[true, true, true, true, true, true, false, false, true, true, false, false] rfl rfl rfl rfl (by kernel_rfl) (by decide) (by decide) (fun K hK => ?_) (fun K hK => ?_)
          · skip
            refine goes_ Try.func41 (by kernel_rfl) rfl #[.int .u64 y, .int .i64 8] (by rfl) rfl rfl (by (try simp only [List.map_toArray, List.map_cons, List.map_nil]); first | done | rfl) ?_
            with_reducible refine (words_Sext.calls y 8 t _ A4.out).mono ?_
            rintro e wd ⟨rfl, hd⟩
            refine ⟨_, rfl, ?_⟩
            have hb := Drawn0.below hd
            clear hd
            have n6_ := Aside0.mk (blk_below BK6.out hb)
            have n7_ := Aside0.mk (blk_below BK7.out hb)
            have n11_ := Aside0.mk (blk_below BK11.out hb)
            have nB_ := Aside0.mk (below_step HB.out hb)
            clear BK6 BK7 BK11 HB
            have BK6 := n6_
            have BK7 := n7_
            have BK11 := n11_
            have HB := nB_
            clear n6_ n7_ n11_ nB_
            clear hb
            refine hK.out _ _ ⟨(blk_cell BK6.out 0).trans rfl, (blk_cell BK7.out 0).trans rfl⟩ (fun hHeld => ?_)
            clear hK K
            refine norm_ (a' := ?_) ?_ ?_
            rotate_left
            · show Act.put _ (some 29) _ = _
              simp only [Act.put, List.setIfInBounds_toArray, List.set_cons_zero, List.set_cons_succ, i64_w, i32_w]
              rfl
            refine pure_ (i := 7) (N := some 30) (v := ?_) (a' := ?_) #[true, true, true, true, true, true, true, true, true, false, false, false] rfl rfl (by kernel_rfl) (fun _ _ _ h => h) (Or.inl ⟨by rfl, ?_⟩) ?_ ?_
            rotate_left
            · intro w'
              go_simp
              with_reducible rfl
            rotate_left
            · simp only [Act.put, List.setIfInBounds_toArray, List.set_cons_zero, List.set_cons_succ, i64_w, i32_w]
              rfl
            refine one_ (i := 9) (N := some 12) #[true, true, true, true, true, true, true, true, true, true, false, false] rfl rfl (by kernel_rfl) (by decide) (fun K hK => ?_)
            refine box_step (by rfl) (N := 12) rfl (cs := #[.int .i64 0]) (t := 2) (by first | (go_simp; done) | (go_simp; rfl)) ?_
            intro g12 hg wd hx hb
            have NEQ : Aside0 (g11 ≠ g12) := ⟨by have := blk_lt BK11.out; omega⟩
            have GE12 : Aside0 (w.heap.size ≤ g12) := ⟨by rw [hg]; exact HB.out.size⟩
            have LT12 : Aside0 (g6 < g12 ∧ g7 < g12) := ⟨by have p6_ := blk_lt BK6.out; have p7_ := blk_lt BK7.out; omega⟩
            have n6_ := Aside0.mk (blk_below BK6.out hb)
            have n7_ := Aside0.mk (blk_below BK7.out hb)
            have n11_ := Aside0.mk (blk_below BK11.out hb)
            have nB_ := Aside0.mk (below_step HB.out hb)
            clear BK6 BK7 BK11 HB
            have BK6 := n6_
            have BK7 := n7_
            have BK11 := n11_
            have HB := nB_
            clear n6_ n7_ n11_ nB_
            have BK12 := Aside0.mk hx
            clear hb hx hg
            refine hK.out _ _ ⟨(blk_cell BK6.out 0).trans rfl, (blk_cell BK7.out 0).trans rfl⟩ (fun hHeld => ?_)
            clear hK K
            refine norm_ (a' := ?_) ?_ ?_
            rotate_left
            · show Act.put _ (some 12) _ = _
              simp only [Act.put, List.setIfInBounds_toArray, List.set_cons_zero, List.set_cons_succ, i64_w, i32_w]
              rfl
            exact norm_ (by simp only [putAll, Act.put, List.setIfInBounds_toArray, List.set_cons_zero, List.set_cons_succ]) (hCont (g11, g12) _ ⟨BK6.out, BK7.out, BK11.out, BK12.out, NEQ.out, GE11.out, GE12.out, LT11.out, LT12.out, HB.out⟩)
          · skip
            refine box_step (by rfl) (N := 12) rfl (cs := #[.int .i64 0]) (t := 2) (by first | (go_simp; done) | (go_simp; rfl)) ?_
            intro g12 hg wd hx hb
            have NEQ : Aside0 (g11 ≠ g12) := ⟨by have := blk_lt BK11.out; omega⟩
            have GE12 : Aside0 (w.heap.size ≤ g12) := ⟨by rw [hg]; exact HB.out.size⟩
            have LT12 : Aside0 (g6 < g12 ∧ g7 < g12) := ⟨by have p6_ := blk_lt BK6.out; have p7_ := blk_lt BK7.out; omega⟩
            have n6_ := Aside0.mk (blk_below BK6.out hb)
            have n7_ := Aside0.mk (blk_below BK7.out hb)
            have n11_ := Aside0.mk (blk_below BK11.out hb)
            have nB_ := Aside0.mk (below_step HB.out hb)
            clear BK6 BK7 BK11 HB
            have BK6 := n6_
            have BK7 := n7_
            have BK11 := n11_
            have HB := nB_
            clear n6_ n7_ n11_ nB_
            have BK12 := Aside0.mk hx
            clear hb hx hg
            refine hK.out _ _ ⟨(blk_cell BK6.out 0).trans rfl, (blk_cell BK7.out 0).trans rfl⟩ (fun hHeld => ?_)
            clear hK K
            refine norm_ (a' := ?_) ?_ ?_
            rotate_left
            · show Act.put _ (some 12) _ = _
              simp only [Act.put, List.setIfInBounds_toArray, List.set_cons_zero, List.set_cons_succ, i64_w, i32_w]
              rfl
            refine one_ (i := 6) (N := some 29) #[true, true, true, true, true, true, true, false, true, true, false, false] rfl rfl (by kernel_rfl) (by decide) (fun K hK => ?_)
            refine goes_ Try.func41 (by kernel_rfl) rfl #[.int .u64 y, .int .i64 8] (by rfl) rfl rfl (by (try simp only [List.map_toArray, List.map_cons, List.map_nil]); first | done | rfl) ?_
            with_reducible refine (words_Sext.calls y 8 t _ A4.out).mono ?_
            rintro e wd ⟨rfl, hd⟩
            refine ⟨_, rfl, ?_⟩
            have hb := Drawn0.below hd
            clear hd
            have n6_ := Aside0.mk (blk_below BK6.out hb)
            have n7_ := Aside0.mk (blk_below BK7.out hb)
            have n11_ := Aside0.mk (blk_below BK11.out hb)
            have n12_ := Aside0.mk (blk_below BK12.out hb)
            have nB_ := Aside0.mk (below_step HB.out hb)
            clear BK6 BK7 BK11 BK12 HB
            have BK6 := n6_
            have BK7 := n7_
            have BK11 := n11_
            have BK12 := n12_
            have HB := nB_
            clear n6_ n7_ n11_ n12_ nB_
            clear hb
            refine hK.out _ _ ⟨(blk_cell BK6.out 0).trans rfl, (blk_cell BK7.out 0).trans rfl⟩ (fun hHeld => ?_)
            clear hK K
            refine norm_ (a' := ?_) ?_ ?_
            rotate_left
            · show Act.put _ (some 29) _ = _
              simp only [Act.put, List.setIfInBounds_toArray, List.set_cons_zero, List.set_cons_succ, i64_w, i32_w]
              rfl
            refine pure_ (i := 7) (N := some 30) (v := ?_) (a' := ?_) #[true, true, true, true, true, true, true, true, true, true, false, false] rfl rfl (by kernel_rfl) (fun _ _ _ h => h) (Or.inl ⟨by rfl, ?_⟩) ?_ ?_
            rotate_left
            · intro w'
              go_simp
              with_reducible rfl
            rotate_left
            · simp only [Act.put, List.setIfInBounds_toArray, List.set_cons_zero, List.set_cons_succ, i64_w, i32_w]
              rfl
            exact norm_ (by simp only [putAll, Act.put, List.setIfInBounds_toArray, List.set_cons_zero, List.set_cons_succ]) (hCont (g11, g12) _ ⟨BK6.out, BK7.out, BK11.out, BK12.out, NEQ.out, GE11.out, GE12.out, LT11.out, LT12.out, HB.out⟩)
        · skip
          refine box_step (by rfl) (N := 12) rfl (cs := #[.int .i64 0]) (t := 2) (by first | (go_simp; done) | (go_simp; rfl)) ?_
          intro g12 hg wd hx hb
          have NEQ : Aside0 (g11 ≠ g12) := ⟨by have := blk_lt BK11.out; omega⟩
          have GE12 : Aside0 (w.heap.size ≤ g12) := ⟨by rw [hg]; exact HB.out.size⟩
          have LT12 : Aside0 (g6 < g12 ∧ g7 < g12) := ⟨by have p6_ := blk_lt BK6.out; have p7_ := blk_lt BK7.out; omega⟩
          have n6_ := Aside0.mk (blk_below BK6.out hb)
          have n7_ := Aside0.mk (blk_below BK7.out hb)
          have n11_ := Aside0.mk (blk_below BK11.out hb)
          have nB_ := Aside0.mk (below_step HB.out hb)
          clear BK6 BK7 BK11 HB
          have BK6 := n6_
          have BK7 := n7_
          have BK11 := n11_
          have HB := nB_
          clear n6_ n7_ n11_ nB_
          have BK12 := Aside0.mk hx
          clear hb hx hg
          refine hK.out _ _ ⟨(blk_cell BK6.out 0).trans rfl, (blk_cell BK7.out 0).trans rfl⟩ (fun hHeld => ?_)
          clear hK K
          refine norm_ (a' := ?_) ?_ ?_
          rotate_left
          · show Act.put _ (some 12) _ = _
            simp only [Act.put, List.setIfInBounds_toArray, List.set_cons_zero, List.set_cons_succ, i64_w, i32_w]
            rfl
          refine one_ (i := 2) (N := some 25) #[true, true, true, false, true, true, false, false, true, true, false, false] rfl rfl (by kernel_rfl) (by decide) (fun K hK => ?_)
          refine goes_ Try.func41 (by kernel_rfl) rfl #[.int .u64 x, .int .i64 8] (by rfl) rfl rfl (by (try simp only [List.map_toArray, List.map_cons, List.map_nil]); first | done | rfl) ?_
          with_reducible refine (words_Sext.calls x 8 s _ A3.out).mono ?_
          rintro e wd ⟨rfl, hd⟩
          refine ⟨_, rfl, ?_⟩
          have hb := Drawn0.below hd
          clear hd
          have n6_ := Aside0.mk (blk_below BK6.out hb)
          have n7_ := Aside0.mk (blk_below BK7.out hb)
          have n11_ := Aside0.mk (blk_below BK11.out hb)
          have n12_ := Aside0.mk (blk_below BK12.out hb)
          have nB_ := Aside0.mk (below_step HB.out hb)
          clear BK6 BK7 BK11 BK12 HB
          have BK6 := n6_
          have BK7 := n7_
          have BK11 := n11_
          have BK12 := n12_
          have HB := nB_
          clear n6_ n7_ n11_ n12_ nB_
          clear hb
          refine hK.out _ _ ⟨(blk_cell BK6.out 0).trans rfl, (blk_cell BK7.out 0).trans rfl⟩ (fun hHeld => ?_)
          clear hK K
          refine norm_ (a' := ?_) ?_ ?_
          rotate_left
          · show Act.put _ (some 25) _ = _
            simp only [Act.put, List.setIfInBounds_toArray, List.set_cons_zero, List.set_cons_succ, i64_w, i32_w]
            rfl
          refine pure_ (i := 3) (N := some 26) (v := ?_) (a' := ?_) #[true, true, true, true, true, true, false, false, true, true, false, false] rfl rfl (by kernel_rfl) (fun _ _ _ h => h) (Or.inl ⟨by rfl, ?_⟩) ?_ ?_
          rotate_left
          · intro w'
            go_simp
            with_reducible rfl
          rotate_left
          · simp only [Act.put, List.setIfInBounds_toArray, List.set_cons_zero, List.set_cons_succ, i64_w, i32_w]
            rfl
          refine one_ (i := 6) (N := some 29) #[true, true, true, true, true, true, true, false, true, true, false, false] rfl rfl (by kernel_rfl) (by decide) (fun K hK => ?_)
          refine goes_ Try.func41 (by kernel_rfl) rfl #[.int .u64 y, .int .i64 8] (by rfl) rfl rfl (by (try simp only [List.map_toArray, List.map_cons, List.map_nil]); first | done | rfl) ?_
          with_reducible refine (words_Sext.calls y 8 t _ A4.out).mono ?_
          rintro e wd ⟨rfl, hd⟩
          refine ⟨_, rfl, ?_⟩
          have hb := Drawn0.below hd
          clear hd
          have n6_ := Aside0.mk (blk_below BK6.out hb)
          have n7_ := Aside0.mk (blk_below BK7.out hb)
          have n11_ := Aside0.mk (blk_below BK11.out hb)
          have n12_ := Aside0.mk (blk_below BK12.out hb)
          have nB_ := Aside0.mk (below_step HB.out hb)
          clear BK6 BK7 BK11 BK12 HB
          have BK6 := n6_
          have BK7 := n7_
          have BK11 := n11_
          have BK12 := n12_
          have HB := nB_
          clear n6_ n7_ n11_ n12_ nB_
          clear hb
          refine hK.out _ _ ⟨(blk_cell BK6.out 0).trans rfl, (blk_cell BK7.out 0).trans rfl⟩ (fun hHeld => ?_)
          clear hK K
          refine norm_ (a' := ?_) ?_ ?_
          rotate_left
          · show Act.put _ (some 29) _ = _
            simp only [Act.put, List.setIfInBounds_toArray, List.set_cons_zero, List.set_cons_succ, i64_w, i32_w]
            rfl
          refine pure_ (i := 7) (N := some 30) (v := ?_) (a' := ?_) #[true, true, true, true, true, true, true, true, true, true, false, false] rfl rfl (by kernel_rfl) (fun _ _ _ h => h) (Or.inl ⟨by rfl, ?_⟩) ?_ ?_
          rotate_left
          · intro w'
            go_simp
            with_reducible rfl
          rotate_left
          · simp only [Act.put, List.setIfInBounds_toArray, List.set_cons_zero, List.set_cons_succ, i64_w, i32_w]
            rfl
          exact norm_ (by simp only [putAll, Act.put, List.setIfInBounds_toArray, List.set_cons_zero, List.set_cons_succ]) (hCont (g11, g12) _ ⟨BK6.out, BK7.out, BK11.out, BK12.out, NEQ.out, GE11.out, GE12.out, LT11.out, LT12.out, HB.out⟩)
      · skip
        refine box_step (by rfl) (N := 12) rfl (cs := #[.int .i64 0]) (t := 2) (by first | (go_simp; done) | (go_simp; rfl)) ?_
        intro g12 hg wd hx hb
        have GE12 : Aside0 (w.heap.size ≤ g12) := ⟨by rw [hg]; exact HB.out.size⟩
        have LT12 : Aside0 (g6 < g12 ∧ g7 < g12) := ⟨by have p6_ := blk_lt BK6.out; have p7_ := blk_lt BK7.out; omega⟩
        have n6_ := Aside0.mk (blk_below BK6.out hb)
        have n7_ := Aside0.mk (blk_below BK7.out hb)
        have nB_ := Aside0.mk (below_step HB.out hb)
        clear BK6 BK7 HB
        have BK6 := n6_
        have BK7 := n7_
        have HB := nB_
        clear n6_ n7_ nB_
        have BK12 := Aside0.mk hx
        clear hb hx hg
        refine hK.out _ _ ⟨(blk_cell BK6.out 0).trans rfl, (blk_cell BK7.out 0).trans rfl⟩ (fun hHeld => ?_)
        clear hK K
        refine norm_ (a' := ?_) ?_ ?_
        rotate_left
        · show Act.put _ (some 12) _ = _
          simp only [Act.put, List.setIfInBounds_toArray, List.set_cons_zero, List.set_cons_succ, i64_w, i32_w]
          rfl
        refine two_ (i := 2) (j := 8) (Ni := some 25) (Nj := some 11) #[true, true, true, false, true, true, false, false, false, true, false, false] #[true, true, false, false, true, true, false, false, true, true, false, false] rfl rfl rfl rfl (by kernel_rfl) (by decide) (by decide) (fun K hK => ?_) (fun K hK => ?_)
        · skip
          refine goes_ Try.func41 (by kernel_rfl) rfl #[.int .u64 x, .int .i64 8] (by rfl) rfl rfl (by (try simp only [List.map_toArray, List.map_cons, List.map_nil]); first | done | rfl) ?_
          with_reducible refine (words_Sext.calls x 8 s _ A3.out).mono ?_
          rintro e wd ⟨rfl, hd⟩
          refine ⟨_, rfl, ?_⟩
          have hb := Drawn0.below hd
          clear hd
          have n6_ := Aside0.mk (blk_below BK6.out hb)
          have n7_ := Aside0.mk (blk_below BK7.out hb)
          have n12_ := Aside0.mk (blk_below BK12.out hb)
          have nB_ := Aside0.mk (below_step HB.out hb)
          clear BK6 BK7 BK12 HB
          have BK6 := n6_
          have BK7 := n7_
          have BK12 := n12_
          have HB := nB_
          clear n6_ n7_ n12_ nB_
          clear hb
          refine hK.out _ _ ⟨(blk_cell BK6.out 0).trans rfl, (blk_cell BK7.out 0).trans rfl⟩ (fun hHeld => ?_)
          clear hK K
          refine norm_ (a' := ?_) ?_ ?_
          rotate_left
          · show Act.put _ (some 25) _ = _
            simp only [Act.put, List.setIfInBounds_toArray, List.set_cons_zero, List.set_cons_succ, i64_w, i32_w]
            rfl
          refine pure_ (i := 3) (N := some 26) (v := ?_) (a' := ?_) #[true, true, true, true, true, true, false, false, false, true, false, false] rfl rfl (by kernel_rfl) (fun _ _ _ h => h) (Or.inl ⟨by rfl, ?_⟩) ?_ ?_
          rotate_left
          · intro w'
            go_simp
            with_reducible rfl
          rotate_left
          · simp only [Act.put, List.setIfInBounds_toArray, List.set_cons_zero, List.set_cons_succ, i64_w, i32_w]
            rfl
          refine two_ (i := 6) (j := 8) (Ni := some 29) (Nj := some 11) #[true, true, true, true, true, true, true, false, false, true, false, false] #[true, true, true, true, true, true, false, false, true, true, false, false] rfl rfl rfl rfl (by kernel_rfl) (by decide) (by decide) (fun K hK => ?_) (fun K hK => ?_)
          · skip
            refine goes_ Try.func41 (by kernel_rfl) rfl #[.int .u64 y, .int .i64 8] (by rfl) rfl rfl (by (try simp only [List.map_toArray, List.map_cons, List.map_nil]); first | done | rfl) ?_
            with_reducible refine (words_Sext.calls y 8 t _ A4.out).mono ?_
            rintro e wd ⟨rfl, hd⟩
            refine ⟨_, rfl, ?_⟩
            have hb := Drawn0.below hd
            clear hd
            have n6_ := Aside0.mk (blk_below BK6.out hb)
            have n7_ := Aside0.mk (blk_below BK7.out hb)
            have n12_ := Aside0.mk (blk_below BK12.out hb)
            have nB_ := Aside0.mk (below_step HB.out hb)
            clear BK6 BK7 BK12 HB
            have BK6 := n6_
            have BK7 := n7_
            have BK12 := n12_
            have HB := nB_
            clear n6_ n7_ n12_ nB_
            clear hb
            refine hK.out _ _ ⟨(blk_cell BK6.out 0).trans rfl, (blk_cell BK7.out 0).trans rfl⟩ (fun hHeld => ?_)
            clear hK K
            refine norm_ (a' := ?_) ?_ ?_
            rotate_left
            · show Act.put _ (some 29) _ = _
              simp only [Act.put, List.setIfInBounds_toArray, List.set_cons_zero, List.set_cons_succ, i64_w, i32_w]
              rfl
            refine pure_ (i := 7) (N := some 30) (v := ?_) (a' := ?_) #[true, true, true, true, true, true, true, true, false, true, false, false] rfl rfl (by kernel_rfl) (fun _ _ _ h => h) (Or.inl ⟨by rfl, ?_⟩) ?_ ?_
            rotate_left
            · intro w'
              go_simp
              with_reducible rfl
            rotate_left
            · simp only [Act.put, List.setIfInBounds_toArray, List.set_cons_zero, List.set_cons_succ, i64_w, i32_w]
              rfl
            refine one_ (i := 8) (N := some 11) #[true, true, true, true, true, true, true, true, true, true, false, false] rfl rfl (by kernel_rfl) (by decide) (fun K hK => ?_)
            refine box_step (by rfl) (N := 11) rfl (cs := #[.int .i64 0]) (t := 2) (by first | (go_simp; done) | (go_simp; rfl)) ?_
            intro g11 hg wd hx hb
            have NEQ : Aside0 (g11 ≠ g12) := ⟨by have := blk_lt BK12.out; omega⟩
            have GE11 : Aside0 (w.heap.size ≤ g11) := ⟨by rw [hg]; exact HB.out.size⟩
            have LT11 : Aside0 (g6 < g11 ∧ g7 < g11) := ⟨by have p6_ := blk_lt BK6.out; have p7_ := blk_lt BK7.out; omega⟩
            have n6_ := Aside0.mk (blk_below BK6.out hb)
            have n7_ := Aside0.mk (blk_below BK7.out hb)
            have n12_ := Aside0.mk (blk_below BK12.out hb)
            have nB_ := Aside0.mk (below_step HB.out hb)
            clear BK6 BK7 BK12 HB
            have BK6 := n6_
            have BK7 := n7_
            have BK12 := n12_
            have HB := nB_
            clear n6_ n7_ n12_ nB_
            have BK11 := Aside0.mk hx
            clear hb hx hg
            refine hK.out _ _ ⟨(blk_cell BK6.out 0).trans rfl, (blk_cell BK7.out 0).trans rfl⟩ (fun hHeld => ?_)
            clear hK K
            refine norm_ (a' := ?_) ?_ ?_
            rotate_left
            · show Act.put _ (some 11) _ = _
              simp only [Act.put, List.setIfInBounds_toArray, List.set_cons_zero, List.set_cons_succ, i64_w, i32_w]
              rfl
            exact norm_ (by simp only [putAll, Act.put, List.setIfInBounds_toArray, List.set_cons_zero, List.set_cons_succ]) (hCont (g11, g12) _ ⟨BK6.out, BK7.out, BK11.out, BK12.out, NEQ.out, GE11.out, GE12.out, LT11.out, LT12.out, HB.out⟩)
          · skip
            refine box_step (by rfl) (N := 11) rfl (cs := #[.int .i64 0]) (t := 2) (by first | (go_simp; done) | (go_simp; rfl)) ?_
            intro g11 hg wd hx hb
            have NEQ : Aside0 (g11 ≠ g12) := ⟨by have := blk_lt BK12.out; omega⟩
            have GE11 : Aside0 (w.heap.size ≤ g11) := ⟨by rw [hg]; exact HB.out.size⟩
            have LT11 : Aside0 (g6 < g11 ∧ g7 < g11) := ⟨by have p6_ := blk_lt BK6.out; have p7_ := blk_lt BK7.out; omega⟩
            have n6_ := Aside0.mk (blk_below BK6.out hb)
            have n7_ := Aside0.mk (blk_below BK7.out hb)
            have n12_ := Aside0.mk (blk_below BK12.out hb)
            have nB_ := Aside0.mk (below_step HB.out hb)
            clear BK6 BK7 BK12 HB
            have BK6 := n6_
            have BK7 := n7_
            have BK12 := n12_
            have HB := nB_
            clear n6_ n7_ n12_ nB_
            have BK11 := Aside0.mk hx
            clear hb hx hg
            refine hK.out _ _ ⟨(blk_cell BK6.out 0).trans rfl, (blk_cell BK7.out 0).trans rfl⟩ (fun hHeld => ?_)
            clear hK K
            refine norm_ (a' := ?_) ?_ ?_
            rotate_left
            · show Act.put _ (some 11) _ = _
              simp only [Act.put, List.setIfInBounds_toArray, List.set_cons_zero, List.set_cons_succ, i64_w, i32_w]
              rfl
            refine one_ (i := 6) (N := some 29) #[true, true, true, true, true, true, true, false, true, true, false, false] rfl rfl (by kernel_rfl) (by decide) (fun K hK => ?_)
            refine goes_ Try.func41 (by kernel_rfl) rfl #[.int .u64 y, .int .i64 8] (by rfl) rfl rfl (by (try simp only [List.map_toArray, List.map_cons, List.map_nil]); first | done | rfl) ?_
            with_reducible refine (words_Sext.calls y 8 t _ A4.out).mono ?_
            rintro e wd ⟨rfl, hd⟩
            refine ⟨_, rfl, ?_⟩
            have hb := Drawn0.below hd
            clear hd
            have n6_ := Aside0.mk (blk_below BK6.out hb)
            have n7_ := Aside0.mk (blk_below BK7.out hb)
            have n12_ := Aside0.mk (blk_below BK12.out hb)
            have n11_ := Aside0.mk (blk_below BK11.out hb)
            have nB_ := Aside0.mk (below_step HB.out hb)
            clear BK6 BK7 BK12 BK11 HB
            have BK6 := n6_
            have BK7 := n7_
            have BK12 := n12_
            have BK11 := n11_
            have HB := nB_
            clear n6_ n7_ n12_ n11_ nB_
            clear hb
            refine hK.out _ _ ⟨(blk_cell BK6.out 0).trans rfl, (blk_cell BK7.out 0).trans rfl⟩ (fun hHeld => ?_)
            clear hK K
            refine norm_ (a' := ?_) ?_ ?_
            rotate_left
            · show Act.put _ (some 29) _ = _
              simp only [Act.put, List.setIfInBounds_toArray, List.set_cons_zero, List.set_cons_succ, i64_w, i32_w]
              rfl
            refine pure_ (i := 7) (N := some 30) (v := ?_) (a' := ?_) #[true, true, true, true, true, true, true, true, true, true, false, false] rfl rfl (by kernel_rfl) (fun _ _ _ h => h) (Or.inl ⟨by rfl, ?_⟩) ?_ ?_
            rotate_left
            · intro w'
              go_simp
              with_reducible rfl
            rotate_left
            · simp only [Act.put, List.setIfInBounds_toArray, List.set_cons_zero, List.set_cons_succ, i64_w, i32_w]
              rfl
            exact norm_ (by simp only [putAll, Act.put, List.setIfInBounds_toArray, List.set_cons_zero, List.set_cons_succ]) (hCont (g11, g12) _ ⟨BK6.out, BK7.out, BK11.out, BK12.out, NEQ.out, GE11.out, GE12.out, LT11.out, LT12.out, HB.out⟩)
        · skip
          refine box_step (by rfl) (N := 11) rfl (cs := #[.int .i64 0]) (t := 2) (by first | (go_simp; done) | (go_simp; rfl)) ?_
          intro g11 hg wd hx hb
          have NEQ : Aside0 (g11 ≠ g12) := ⟨by have := blk_lt BK12.out; omega⟩
          have GE11 : Aside0 (w.heap.size ≤ g11) := ⟨by rw [hg]; exact HB.out.size⟩
          have LT11 : Aside0 (g6 < g11 ∧ g7 < g11) := ⟨by have p6_ := blk_lt BK6.out; have p7_ := blk_lt BK7.out; omega⟩
          have n6_ := Aside0.mk (blk_below BK6.out hb)
          have n7_ := Aside0.mk (blk_below BK7.out hb)
          have n12_ := Aside0.mk (blk_below BK12.out hb)
          have nB_ := Aside0.mk (below_step HB.out hb)
          clear BK6 BK7 BK12 HB
          have BK6 := n6_
          have BK7 := n7_
          have BK12 := n12_
          have HB := nB_
          clear n6_ n7_ n12_ nB_
          have BK11 := Aside0.mk hx
          clear hb hx hg
          refine hK.out _ _ ⟨(blk_cell BK6.out 0).trans rfl, (blk_cell BK7.out 0).trans rfl⟩ (fun hHeld => ?_)
          clear hK K
          refine norm_ (a' := ?_) ?_ ?_
          rotate_left
          · show Act.put _ (some 11) _ = _
            simp only [Act.put, List.setIfInBounds_toArray, List.set_cons_zero, List.set_cons_succ, i64_w, i32_w]
            rfl
          refine one_ (i := 2) (N := some 25) #[true, true, true, false, true, true, false, false, true, true, false, false] rfl rfl (by kernel_rfl) (by decide) (fun K hK => ?_)
          refine goes_ Try.func41 (by kernel_rfl) rfl #[.int .u64 x, .int .i64 8] (by rfl) rfl rfl (by (try simp only [List.map_toArray, List.map_cons, List.map_nil]); first | done | rfl) ?_
          with_reducible refine (words_Sext.calls x 8 s _ A3.out).mono ?_
          rintro e wd ⟨rfl, hd⟩
          refine ⟨_, rfl, ?_⟩
          have hb := Drawn0.below hd
          clear hd
          have n6_ := Aside0.mk (blk_below BK6.out hb)
          have n7_ := Aside0.mk (blk_below BK7.out hb)
          have n12_ := Aside0.mk (blk_below BK12.out hb)
          have n11_ := Aside0.mk (blk_below BK11.out hb)
          have nB_ := Aside0.mk (below_step HB.out hb)
          clear BK6 BK7 BK12 BK11 HB
          have BK6 := n6_
          have BK7 := n7_
          have BK12 := n12_
          have BK11 := n11_
          have HB := nB_
          clear n6_ n7_ n12_ n11_ nB_
          clear hb
          refine hK.out _ _ ⟨(blk_cell BK6.out 0).trans rfl, (blk_cell BK7.out 0).trans rfl⟩ (fun hHeld => ?_)
          clear hK K
          refine norm_ (a' := ?_) ?_ ?_
          rotate_left
          · show Act.put _ (some 25) _ = _
            simp only [Act.put, List.setIfInBounds_toArray, List.set_cons_zero, List.set_cons_succ, i64_w, i32_w]
            rfl
          refine pure_ (i := 3) (N := some 26) (v := ?_) (a' := ?_) #[true, true, true, true, true, true, false, false, true, true, false, false] rfl rfl (by kernel_rfl) (fun _ _ _ h => h) (Or.inl ⟨by rfl, ?_⟩) ?_ ?_
          rotate_left
          · intro w'
            go_simp
            with_reducible rfl
          rotate_left
          · simp only [Act.put, List.setIfInBounds_toArray, List.set_cons_zero, List.set_cons_succ, i64_w, i32_w]
            rfl
          refine one_ (i := 6) (N := some 29) #[true, true, true, true, true, true, true, false, true, true, false, false] rfl rfl (by kernel_rfl) (by decide) (fun K hK => ?_)
          refine goes_ Try.func41 (by kernel_rfl) rfl #[.int .u64 y, .int .i64 8] (by rfl) rfl rfl (by (try simp only [List.map_toArray, List.map_cons, List.map_nil]); first | done | rfl) ?_
          with_reducible refine (words_Sext.calls y 8 t _ A4.out).mono ?_
          rintro e wd ⟨rfl, hd⟩
          refine ⟨_, rfl, ?_⟩
          have hb := Drawn0.below hd
          clear hd
          have n6_ := Aside0.mk (blk_below BK6.out hb)
          have n7_ := Aside0.mk (blk_below BK7.out hb)
          have n12_ := Aside0.mk (blk_below BK12.out hb)
          have n11_ := Aside0.mk (blk_below BK11.out hb)
          have nB_ := Aside0.mk (below_step HB.out hb)
          clear BK6 BK7 BK12 BK11 HB
          have BK6 := n6_
          have BK7 := n7_
          have BK12 := n12_
          have BK11 := n11_
          have HB := nB_
          clear n6_ n7_ n12_ n11_ nB_
          clear hb
          refine hK.out _ _ ⟨(blk_cell BK6.out 0).trans rfl, (blk_cell BK7.out 0).trans rfl⟩ (fun hHeld => ?_)
          clear hK K
          refine norm_ (a' := ?_) ?_ ?_
          rotate_left
          · show Act.put _ (some 29) _ = _
            simp only [Act.put, List.setIfInBounds_toArray, List.set_cons_zero, List.set_cons_succ, i64_w, i32_w]
            rfl
          refine pure_ (i := 7) (N := some 30) (v := ?_) (a' := ?_) #[true, true, true, true, true, true, true, true, true, true, false, false] rfl rfl (by kernel_rfl) (fun _ _ _ h => h) (Or.inl ⟨by rfl, ?_⟩) ?_ ?_
          rotate_left
          · intro w'
            go_simp
            with_reducible rfl
          rotate_left
          · simp only [Act.put, List.setIfInBounds_toArray, List.set_cons_zero, List.set_cons_succ, i64_w, i32_w]
            rfl
          exact norm_ (by simp only [putAll, Act.put, List.setIfInBounds_toArray, List.set_cons_zero, List.set_cons_succ]) (hCont (g11, g12) _ ⟨BK6.out, BK7.out, BK11.out, BK12.out, NEQ.out, GE11.out, GE12.out, LT11.out, LT12.out, HB.out⟩)
    rintro ⟨g11, g12⟩ wr7 ⟨h0_, h1_, h2_, h3_, h4_, h5_, h6_, h7_, h8_, h9_⟩
    clear BK6 BK7 HB hHeld
    have BK6 : Aside0 (wr7.heap[g6]? = some (.cells #[.int .u64 x] 22 (0, 0))) := ⟨h0_⟩
    have BK7 : Aside0 (wr7.heap[g7]? = some (.cells #[.int .u64 y] 22 (0, 0))) := ⟨h1_⟩
    have BK11 : Aside0 (wr7.heap[g11]? = some (.cells #[.int .i64 0] 2 (0, 0))) := ⟨h2_⟩
    have BK12 : Aside0 (wr7.heap[g12]? = some (.cells #[.int .i64 0] 2 (0, 0))) := ⟨h3_⟩
    have NEQ : Aside0 (g11 ≠ g12) := ⟨h4_⟩
    have GE11 : Aside0 (w.heap.size ≤ g11) := ⟨h5_⟩
    have GE12 : Aside0 (w.heap.size ≤ g12) := ⟨h6_⟩
    have LT11 : Aside0 (g6 < g11 ∧ g7 < g11) := ⟨h7_⟩
    have LT12 : Aside0 (g6 < g12 ∧ g7 < g12) := ⟨h8_⟩
    have HB := Aside0.mk h9_
    clear h0_ h1_ h2_ h3_ h4_ h5_ h6_ h7_ h8_ h9_
    refine norm_ (a' := ?_) ?_ ?_
    rotate_left
    · simp only [putAll, Act.put, List.setIfInBounds_toArray, List.set_cons_zero, List.set_cons_succ]
      rfl
    have e11 : wr7.cell? ⟨g11, 0, none⟩ = some (.int .i64 0) := (blk_cell BK11.out 0).trans rfl
    have e12 : wr7.cell? ⟨g12, 0, none⟩ = some (.int .i64 0) := (blk_cell BK12.out 0).trans rfl
    have z11 := blk_frozen BK11.out 0
    have z12 := blk_frozen BK12.out 0
    have q1 := NEQ.out
    have q2 := NEQ.out.symm
    refine last_ (i := 10) (N := none) #[true, true, true, true, true, true, true, true, true, true, true, false] rfl rfl (by kernel_rfl) (by decide) (fun K hK => ?_)
    refine skip_ (w1 := ?_) (by rfl) rfl ?_ ?_
    rotate_left
    · go_simp
      rfl
    refine hK.out _ _ ?_
    clear hK K
    refine last_ (i := 11) (N := none) #[true, true, true, true, true, true, true, true, true, true, true, true] rfl rfl (by kernel_rfl) (by decide) (fun K hK => ?_)
    refine skip_ (w1 := ?_) (by rfl) rfl ?_ ?_
    rotate_left
    · go_simp
      rfl
    refine hK.out _ _ ?_
    clear hK K
    refine done_ (by kernel_rfl) ?_
    clear e11 e12 z11 z12
    have q3 : g6 ≠ g11 := Nat.ne_of_lt LT11.out.1
    have q4 : g7 ≠ g11 := Nat.ne_of_lt LT11.out.2
    have q5 : g6 ≠ g12 := Nat.ne_of_lt LT12.out.1
    have q6 : g7 ≠ g12 := Nat.ne_of_lt LT12.out.2
    refine gate_world (fun W : World => W.heap[g6]? = some (.cells #[.int .u64 x] 22 (0, 0)) ∧ W.heap[g7]? = some (.cells #[.int .u64 y] 22 (0, 0)) ∧ W.heap[g11]? = some (.cells #[.int .i64 (wrap64 s)] 2 (0, 0)) ∧ W.heap[g12]? = some (.cells #[.int .i64 (wrap64 t)] 2 (0, 0)) ∧ Below w.heap.size w W) ⟨blk_far (blk_far BK6.out q3 _) q5 _, blk_far (blk_far BK7.out q4 _) q6 _, blk_far (blk_put (cs := #[.int .i64 0]) BK11.out 0 _ rfl) q1 _, blk_put (cs := #[.int .i64 0]) (blk_far BK12.out q2 _) 0 _ rfl, below_set (below_set HB.out GE11.out) GE12.out⟩ ?_
    rintro wr8 ⟨x6_, x7_, x11_, x12_, xb_⟩
    clear BK6 BK7 BK11 BK12 HB q1 q2 q3 q4 q5 q6
    have BK6 := Aside0.mk x6_
    have BK7 := Aside0.mk x7_
    have BK11 := Aside0.mk x11_
    have BK12 := Aside0.mk x12_
    have HB := Aside0.mk xb_
    clear x6_ x7_ x11_ x12_ xb_
    clear A1 A2 A3 A4 LT11 LT12 NEQ NE67 GE6 GE7 GE11 GE12
    have h := HC.out
    clear HC
    cases hc : alu_cond.f a0 x y (wrap64 s) (wrap64 t) with
    | none =>
      rw [hc] at h
      simp only [Option.some.injEq, Prod.mk.injEq] at h
      obtain ⟨rfl, rfl⟩ := h
      have HL := alu_cond_none g6 g7 g11 g12 hc
      clear hc
      go_wp2_with (first | ((with_reducible refine gate_dst (N := 32) rfl ?_); refine mkmap_event (N := 32) rfl rfl rfl ?_; intro gm hg wm hm hb; have GEM : Aside0 (w.heap.size ≤ gm ∧ gm = gm) := ⟨by rw [hg]; exact ⟨HB.out.size, rfl⟩⟩; have NM : Aside0 (g6 ≠ gm ∧ g7 ≠ gm ∧ g11 ≠ gm ∧ g12 ≠ gm) := ⟨by have p6_ := blk_lt BK6.out; have p7_ := blk_lt BK7.out; have p11_ := blk_lt BK11.out; have p12_ := blk_lt BK12.out; omega⟩; have n6_ := Aside0.mk (blk_below BK6.out hb); have n7_ := Aside0.mk (blk_below BK7.out hb); have n11_ := Aside0.mk (blk_below BK11.out hb); have n12_ := Aside0.mk (blk_below BK12.out hb); have nB_ := Aside0.mk (below_step HB.out hb); clear BK6 BK7 BK11 BK12 HB; have BK6 := n6_; have BK7 := n7_; have BK11 := n11_; have BK12 := n12_; have HB := nB_; clear n6_ n7_ n11_ n12_ nB_; have BM := Aside0.mk hm; clear hb hm hg) | (refine insert_event2 rfl rfl hu hu5 rfl rfl BM.out (by kernel_rfl) ?_; intro wi hm hb ho; have n6_ := Aside0.mk ((ho g6 NM.out.1).trans BK6.out); have n7_ := Aside0.mk ((ho g7 NM.out.2.1).trans BK7.out); have n11_ := Aside0.mk ((ho g11 NM.out.2.2.1).trans BK11.out); have n12_ := Aside0.mk ((ho g12 NM.out.2.2.2).trans BK12.out); have nB_ := Aside0.mk (HB.out.trans (hb w.heap.size GEM.out.1)); have nM_ := Aside0.mk hm; clear BM HB BK6 BK7 BK11 BK12 hm hb ho; have BM := nM_; have HB := nB_; have BK6 := n6_; have BK7 := n7_; have BK11 := n11_; have BK12 := n12_; clear nM_ nB_ n6_ n7_ n11_ n12_) | ((with_reducible refine gate_dst (N := 46) rfl ?_); have e1 := (show _ = some (Obj.map (alu_condMap g6 g7 g11 g12) 11) from BM.out); refine lookup_event (t := 63) (kt := 5) (et := 23) (d := .int .u8) (m := .tmp 44) (k := .tmp 45) (z := .nilFunc) rfl rfl hu hu5 rfl (kv := .int .u8 a0) rfl rfl e1 (by kernel_rfl) HL ?_; clear e1 BM; simp only [looked]))
      go_ret2
      exact ⟨rfl, HB.out⟩
    | some r =>
      rw [hc] at h
      simp only [Option.some.injEq, Prod.mk.injEq] at h
      obtain ⟨rfl, rfl⟩ := h
      obtain ⟨i, f, fn, cap, HL, HF1, HF2, HF3, HF4⟩ := alu_cond_some g6 g7 g11 g12 hc
      clear hc
      go_wp2_with (first | ((with_reducible refine gate_dst (N := 32) rfl ?_); refine mkmap_event (N := 32) rfl rfl rfl ?_; intro gm hg wm hm hb; have GEM : Aside0 (w.heap.size ≤ gm ∧ gm = gm) := ⟨by rw [hg]; exact ⟨HB.out.size, rfl⟩⟩; have NM : Aside0 (g6 ≠ gm ∧ g7 ≠ gm ∧ g11 ≠ gm ∧ g12 ≠ gm) := ⟨by have p6_ := blk_lt BK6.out; have p7_ := blk_lt BK7.out; have p11_ := blk_lt BK11.out; have p12_ := blk_lt BK12.out; omega⟩; have n6_ := Aside0.mk (blk_below BK6.out hb); have n7_ := Aside0.mk (blk_below BK7.out hb); have n11_ := Aside0.mk (blk_below BK11.out hb); have n12_ := Aside0.mk (blk_below BK12.out hb); have nB_ := Aside0.mk (below_step HB.out hb); clear BK6 BK7 BK11 BK12 HB; have BK6 := n6_; have BK7 := n7_; have BK11 := n11_; have BK12 := n12_; have HB := nB_; clear n6_ n7_ n11_ n12_ nB_; have BM := Aside0.mk hm; clear hb hm hg) | (refine insert_event2 rfl rfl hu hu5 rfl rfl BM.out (by kernel_rfl) ?_; intro wi hm hb ho; have n6_ := Aside0.mk ((ho g6 NM.out.1).trans BK6.out); have n7_ := Aside0.mk ((ho g7 NM.out.2.1).trans BK7.out); have n11_ := Aside0.mk ((ho g11 NM.out.2.2.1).trans BK11.out); have n12_ := Aside0.mk ((ho g12 NM.out.2.2.2).trans BK12.out); have nB_ := Aside0.mk (HB.out.trans (hb w.heap.size GEM.out.1)); have nM_ := Aside0.mk hm; clear BM HB BK6 BK7 BK11 BK12 hm hb ho; have BM := nM_; have HB := nB_; have BK6 := n6_; have BK7 := n7_; have BK11 := n11_; have BK12 := n12_; clear nM_ nB_ n6_ n7_ n11_ n12_) | ((with_reducible refine gate_dst (N := 46) rfl ?_); have e1 := (show _ = some (Obj.map (alu_condMap g6 g7 g11 g12) 11) from BM.out); refine lookup_event (t := 63) (kt := 5) (et := 23) (d := .int .u8) (m := .tmp 44) (k := .tmp 45) (z := .nilFunc) rfl rfl hu hu5 rfl (kv := .int .u8 a0) rfl rfl e1 (by kernel_rfl) HL ?_; clear e1 BM; simp only [looked]) | ((with_reducible refine gate_dst (N := 52) rfl ?_); refine goesV_ (cap := cap) (some 52) rfl rfl HF1 HF2 HF3 cap rfl rfl (by simp) ?_; (with_reducible refine (HF4 _ BK6.out BK7.out BK11.out BK12.out).mono ?_); rintro e we ⟨rfl, hb⟩; refine ⟨_, rfl, ?_⟩; have nB_ := Aside0.mk (below_step HB.out hb); clear HB hb; have HB := nB_; clear nB_))
      go_ret2
      exact ⟨rfl, HB.out⟩

end Go.Proofs.Ytdojdjafleaedaa.PAluHolds
