/- Functions of the program that some laws reach, as Lean functions, and proofs that the program's calls come to what they say: written by a program, for the texts that import it; each theorem bears its own conditions. -/
import Derived.Test.YteckjmejngieeaaPHooksOfx0
namespace Go.Proofs.Yteckjmejngieeaa.PHooksOf
open Go.RowKit Go.Proofs.YteckjmejngieeaaW.PrintWords Go.Proofs.YteckjmejngieeaaW.PrintLast Go.Proofs.YteckjmejngieeaaW.PrintMore
attribute [local go_sem] max2_int min2_int max_two min_two max_three min_three max_four min_four   -- for this text's walks alone
set_option linter.unusedVariables false
set_option linter.unusedSimpArgs false

-- NOT PRINTED: function 66 (hooks_table)

-- NOT PRINTED: function 67 (api_HookDef)

/-! ### hooks_By: function 37 -/
open Go.Proofs.Ev
/-- The table of hooks, its words' blocks at g 1 .. g 16. -/
def hooksCells (g : Nat → Nat) : Array Value := #[.string ⟨#[]⟩, .slice none 0 0, .int .u64 0, .string ⟨#[111, 112, 101, 110]⟩, .slice (some ⟨g 1, 0, none⟩) 3 3, .int .u64 40, .string ⟨#[97, 99, 99, 101, 115, 115]⟩, .slice (some ⟨g 2, 0, none⟩) 3 3, .int .u64 40, .string ⟨#[99, 114, 101, 97, 116, 101]⟩, .slice (some ⟨g 3, 0, none⟩) 4 4, .int .u64 40, .string ⟨#[108, 105, 110, 107]⟩, .slice (some ⟨g 4, 0, none⟩) 3 3, .int .u64 40, .string ⟨#[117, 110, 108, 105, 110, 107]⟩, .slice (some ⟨g 5, 0, none⟩) 4 4, .int .u64 40, .string ⟨#[114, 101, 110, 97, 109, 101]⟩, .slice (some ⟨g 6, 0, none⟩) 5 5, .int .u64 40, .string ⟨#[115, 101, 116, 97, 116, 116, 114]⟩, .slice (some ⟨g 7, 0, none⟩) 5 5, .int .u64 40, .string ⟨#[101, 120, 101, 99]⟩, .slice (some ⟨g 8, 0, none⟩) 3 3, .int .u64 40, .string ⟨#[109, 109, 97, 112]⟩, .slice (some ⟨g 9, 0, none⟩) 3 3, .int .u64 40, .string ⟨#[109, 112, 114, 111, 116, 101, 99, 116]⟩, .slice (some ⟨g 10, 0, none⟩) 4 4, .int .u64 40, .string ⟨#[102, 111, 114, 107]⟩, .slice (some ⟨g 11, 0, none⟩) 2 2, .int .u64 12, .string ⟨#[107, 105, 108, 108]⟩, .slice (some ⟨g 12, 0, none⟩) 3 3, .int .u64 1, .string ⟨#[112, 116, 114, 97, 99, 101]⟩, .slice (some ⟨g 13, 0, none⟩) 3 3, .int .u64 1, .string ⟨#[115, 101, 116, 105, 100]⟩, .slice (some ⟨g 14, 0, none⟩) 3 3, .int .u64 1, .string ⟨#[99, 104, 100, 105, 114]⟩, .slice (some ⟨g 15, 0, none⟩) 2 2, .int .u64 40, .string ⟨#[103, 101, 116, 97, 116, 116, 114]⟩, .slice (some ⟨g 16, 0, none⟩) 3 3, .int .u64 40]
def hooksObjs : List Obj := [.cells #[.int .u8 1, .int .u8 2, .int .u8 0] 5 (0, 0), .cells #[.int .u8 1, .int .u8 2, .int .u8 0] 5 (0, 0), .cells #[.int .u8 1, .int .u8 2, .int .u8 0, .int .u8 0] 5 (0, 0), .cells #[.int .u8 1, .int .u8 2, .int .u8 2] 5 (0, 0), .cells #[.int .u8 1, .int .u8 2, .int .u8 2, .int .u8 0] 5 (0, 0), .cells #[.int .u8 1, .int .u8 2, .int .u8 2, .int .u8 2, .int .u8 6] 5 (0, 0), .cells #[.int .u8 1, .int .u8 2, .int .u8 0, .int .u8 0, .int .u8 0] 5 (0, 0), .cells #[.int .u8 1, .int .u8 2, .int .u8 6] 5 (0, 0), .cells #[.int .u8 1, .int .u8 6, .int .u8 0] 5 (0, 0), .cells #[.int .u8 1, .int .u8 6, .int .u8 0, .int .u8 0] 5 (0, 0), .cells #[.int .u8 1, .int .u8 0] 5 (0, 0), .cells #[.int .u8 1, .int .u8 1, .int .u8 0] 5 (0, 0), .cells #[.int .u8 1, .int .u8 1, .int .u8 0] 5 (0, 0), .cells #[.int .u8 1, .int .u8 0, .int .u8 0] 5 (0, 0), .cells #[.int .u8 1, .int .u8 2] 5 (0, 0), .cells #[.int .u8 1, .int .u8 2, .int .u8 0] 5 (0, 0)]
def allocs (w : World) (l : List Obj) : World := l.foldl World.alloc w
theorem allocs_size : ∀ (l : List Obj) (w : World), (allocs w l).heap.size = w.heap.size + l.length
  | [], w => rfl
  | x :: l, w => by
    have h := allocs_size l (w.alloc x)
    show (allocs (w.alloc x) l).heap.size = _
    have e : (w.alloc x).heap.size = w.heap.size + 1 := by simp
    rw [h, e, List.length_cons]
    omega
theorem allocs_below : ∀ (l : List Obj) (w : World), Below w.heap.size w (allocs w l)
  | [], w => Below.refl _ _
  | x :: l, w => below_step (below_alloc (Below.refl _ w) x) (allocs_below l (w.alloc x))
theorem allocs_heap : ∀ (l : List Obj) (w : World) (j : Nat) (x : Obj), l[j]? = some x → (allocs w l).heap[w.heap.size + j]? = some x
  | [], w, j, x, h => by simp at h
  | y :: l, w, 0, x, h => by
    obtain rfl : y = x := by simpa using h
    exact blk_below (blk_new w y) (allocs_below l (w.alloc y))
  | y :: l, w, j + 1, x, h => by
    have e : w.heap.size + (j + 1) = (w.alloc y).heap.size + j := by
      have e1 : (w.alloc y).heap.size = w.heap.size + 1 := by simp
      omega
    rw [e]
    exact allocs_heap l (w.alloc y) j x (by simpa using h)
theorem ht_lit1 (a : Act) (o : Oper) (ho : o.op = .buildSlice 32 3 #[(0, .const (.int .u8 1)), (1, .const (.int .u8 2)), (2, .const (.int .u8 0))]) (W : World) : (execOp a.eval o).run Try.prog W = .ok (.value (.slice (some ⟨W.heap.size, 0, none⟩) 3 3)) (W.alloc (.cells #[.int .u8 1, .int .u8 2, .int .u8 0] 5 (0, 0))) := by
  unfold execOp
  rw [ho]
  kernel_rfl
theorem ht_bld1 (a : Act) (o : Oper) (ho : o.op = .build 70 #[(0, .const (.string ⟨#[111, 112, 101, 110]⟩)), (1, .tmp 1), (2, .const (.int .u64 40))]) (g : Nat) (hs : a.eval (.tmp 1) = .slice (some ⟨g, 0, none⟩) 3 3) (W : World) : (execOp a.eval o).run Try.prog W = .ok (.value (.agg #[.string ⟨#[111, 112, 101, 110]⟩, .slice (some ⟨g, 0, none⟩) 3 3, .int .u64 40])) W := by
  unfold execOp
  rw [ho]
  simp only [List.map_toArray, List.map_cons, List.map_nil, hs]
  kernel_rfl
theorem ht_lit2 (a : Act) (o : Oper) (ho : o.op = .buildSlice 32 3 #[(0, .const (.int .u8 1)), (1, .const (.int .u8 2)), (2, .const (.int .u8 0))]) (W : World) : (execOp a.eval o).run Try.prog W = .ok (.value (.slice (some ⟨W.heap.size, 0, none⟩) 3 3)) (W.alloc (.cells #[.int .u8 1, .int .u8 2, .int .u8 0] 5 (0, 0))) := by
  unfold execOp
  rw [ho]
  kernel_rfl
theorem ht_bld2 (a : Act) (o : Oper) (ho : o.op = .build 70 #[(0, .const (.string ⟨#[97, 99, 99, 101, 115, 115]⟩)), (1, .tmp 3), (2, .const (.int .u64 40))]) (g : Nat) (hs : a.eval (.tmp 3) = .slice (some ⟨g, 0, none⟩) 3 3) (W : World) : (execOp a.eval o).run Try.prog W = .ok (.value (.agg #[.string ⟨#[97, 99, 99, 101, 115, 115]⟩, .slice (some ⟨g, 0, none⟩) 3 3, .int .u64 40])) W := by
  unfold execOp
  rw [ho]
  simp only [List.map_toArray, List.map_cons, List.map_nil, hs]
  kernel_rfl
theorem ht_lit3 (a : Act) (o : Oper) (ho : o.op = .buildSlice 32 4 #[(0, .const (.int .u8 1)), (1, .const (.int .u8 2)), (2, .const (.int .u8 0)), (3, .const (.int .u8 0))]) (W : World) : (execOp a.eval o).run Try.prog W = .ok (.value (.slice (some ⟨W.heap.size, 0, none⟩) 4 4)) (W.alloc (.cells #[.int .u8 1, .int .u8 2, .int .u8 0, .int .u8 0] 5 (0, 0))) := by
  unfold execOp
  rw [ho]
  kernel_rfl
theorem ht_bld3 (a : Act) (o : Oper) (ho : o.op = .build 70 #[(0, .const (.string ⟨#[99, 114, 101, 97, 116, 101]⟩)), (1, .tmp 5), (2, .const (.int .u64 40))]) (g : Nat) (hs : a.eval (.tmp 5) = .slice (some ⟨g, 0, none⟩) 4 4) (W : World) : (execOp a.eval o).run Try.prog W = .ok (.value (.agg #[.string ⟨#[99, 114, 101, 97, 116, 101]⟩, .slice (some ⟨g, 0, none⟩) 4 4, .int .u64 40])) W := by
  unfold execOp
  rw [ho]
  simp only [List.map_toArray, List.map_cons, List.map_nil, hs]
  kernel_rfl
theorem ht_lit4 (a : Act) (o : Oper) (ho : o.op = .buildSlice 32 3 #[(0, .const (.int .u8 1)), (1, .const (.int .u8 2)), (2, .const (.int .u8 2))]) (W : World) : (execOp a.eval o).run Try.prog W = .ok (.value (.slice (some ⟨W.heap.size, 0, none⟩) 3 3)) (W.alloc (.cells #[.int .u8 1, .int .u8 2, .int .u8 2] 5 (0, 0))) := by
  unfold execOp
  rw [ho]
  kernel_rfl
theorem ht_bld4 (a : Act) (o : Oper) (ho : o.op = .build 70 #[(0, .const (.string ⟨#[108, 105, 110, 107]⟩)), (1, .tmp 7), (2, .const (.int .u64 40))]) (g : Nat) (hs : a.eval (.tmp 7) = .slice (some ⟨g, 0, none⟩) 3 3) (W : World) : (execOp a.eval o).run Try.prog W = .ok (.value (.agg #[.string ⟨#[108, 105, 110, 107]⟩, .slice (some ⟨g, 0, none⟩) 3 3, .int .u64 40])) W := by
  unfold execOp
  rw [ho]
  simp only [List.map_toArray, List.map_cons, List.map_nil, hs]
  kernel_rfl
theorem ht_lit5 (a : Act) (o : Oper) (ho : o.op = .buildSlice 32 4 #[(0, .const (.int .u8 1)), (1, .const (.int .u8 2)), (2, .const (.int .u8 2)), (3, .const (.int .u8 0))]) (W : World) : (execOp a.eval o).run Try.prog W = .ok (.value (.slice (some ⟨W.heap.size, 0, none⟩) 4 4)) (W.alloc (.cells #[.int .u8 1, .int .u8 2, .int .u8 2, .int .u8 0] 5 (0, 0))) := by
  unfold execOp
  rw [ho]
  kernel_rfl
theorem ht_bld5 (a : Act) (o : Oper) (ho : o.op = .build 70 #[(0, .const (.string ⟨#[117, 110, 108, 105, 110, 107]⟩)), (1, .tmp 9), (2, .const (.int .u64 40))]) (g : Nat) (hs : a.eval (.tmp 9) = .slice (some ⟨g, 0, none⟩) 4 4) (W : World) : (execOp a.eval o).run Try.prog W = .ok (.value (.agg #[.string ⟨#[117, 110, 108, 105, 110, 107]⟩, .slice (some ⟨g, 0, none⟩) 4 4, .int .u64 40])) W := by
  unfold execOp
  rw [ho]
  simp only [List.map_toArray, List.map_cons, List.map_nil, hs]
  kernel_rfl
theorem ht_lit6 (a : Act) (o : Oper) (ho : o.op = .buildSlice 32 5 #[(0, .const (.int .u8 1)), (1, .const (.int .u8 2)), (2, .const (.int .u8 2)), (3, .const (.int .u8 2)), (4, .const (.int .u8 6))]) (W : World) : (execOp a.eval o).run Try.prog W = .ok (.value (.slice (some ⟨W.heap.size, 0, none⟩) 5 5)) (W.alloc (.cells #[.int .u8 1, .int .u8 2, .int .u8 2, .int .u8 2, .int .u8 6] 5 (0, 0))) := by
  unfold execOp
  rw [ho]
  kernel_rfl
theorem ht_bld6 (a : Act) (o : Oper) (ho : o.op = .build 70 #[(0, .const (.string ⟨#[114, 101, 110, 97, 109, 101]⟩)), (1, .tmp 11), (2, .const (.int .u64 40))]) (g : Nat) (hs : a.eval (.tmp 11) = .slice (some ⟨g, 0, none⟩) 5 5) (W : World) : (execOp a.eval o).run Try.prog W = .ok (.value (.agg #[.string ⟨#[114, 101, 110, 97, 109, 101]⟩, .slice (some ⟨g, 0, none⟩) 5 5, .int .u64 40])) W := by
  unfold execOp
  rw [ho]
  simp only [List.map_toArray, List.map_cons, List.map_nil, hs]
  kernel_rfl
theorem ht_lit7 (a : Act) (o : Oper) (ho : o.op = .buildSlice 32 5 #[(0, .const (.int .u8 1)), (1, .const (.int .u8 2)), (2, .const (.int .u8 0)), (3, .const (.int .u8 0)), (4, .const (.int .u8 0))]) (W : World) : (execOp a.eval o).run Try.prog W = .ok (.value (.slice (some ⟨W.heap.size, 0, none⟩) 5 5)) (W.alloc (.cells #[.int .u8 1, .int .u8 2, .int .u8 0, .int .u8 0, .int .u8 0] 5 (0, 0))) := by
  unfold execOp
  rw [ho]
  kernel_rfl
theorem ht_bld7 (a : Act) (o : Oper) (ho : o.op = .build 70 #[(0, .const (.string ⟨#[115, 101, 116, 97, 116, 116, 114]⟩)), (1, .tmp 13), (2, .const (.int .u64 40))]) (g : Nat) (hs : a.eval (.tmp 13) = .slice (some ⟨g, 0, none⟩) 5 5) (W : World) : (execOp a.eval o).run Try.prog W = .ok (.value (.agg #[.string ⟨#[115, 101, 116, 97, 116, 116, 114]⟩, .slice (some ⟨g, 0, none⟩) 5 5, .int .u64 40])) W := by
  unfold execOp
  rw [ho]
  simp only [List.map_toArray, List.map_cons, List.map_nil, hs]
  kernel_rfl
theorem ht_lit8 (a : Act) (o : Oper) (ho : o.op = .buildSlice 32 3 #[(0, .const (.int .u8 1)), (1, .const (.int .u8 2)), (2, .const (.int .u8 6))]) (W : World) : (execOp a.eval o).run Try.prog W = .ok (.value (.slice (some ⟨W.heap.size, 0, none⟩) 3 3)) (W.alloc (.cells #[.int .u8 1, .int .u8 2, .int .u8 6] 5 (0, 0))) := by
  unfold execOp
  rw [ho]
  kernel_rfl
theorem ht_bld8 (a : Act) (o : Oper) (ho : o.op = .build 70 #[(0, .const (.string ⟨#[101, 120, 101, 99]⟩)), (1, .tmp 15), (2, .const (.int .u64 40))]) (g : Nat) (hs : a.eval (.tmp 15) = .slice (some ⟨g, 0, none⟩) 3 3) (W : World) : (execOp a.eval o).run Try.prog W = .ok (.value (.agg #[.string ⟨#[101, 120, 101, 99]⟩, .slice (some ⟨g, 0, none⟩) 3 3, .int .u64 40])) W := by
  unfold execOp
  rw [ho]
  simp only [List.map_toArray, List.map_cons, List.map_nil, hs]
  kernel_rfl
theorem ht_lit9 (a : Act) (o : Oper) (ho : o.op = .buildSlice 32 3 #[(0, .const (.int .u8 1)), (1, .const (.int .u8 6)), (2, .const (.int .u8 0))]) (W : World) : (execOp a.eval o).run Try.prog W = .ok (.value (.slice (some ⟨W.heap.size, 0, none⟩) 3 3)) (W.alloc (.cells #[.int .u8 1, .int .u8 6, .int .u8 0] 5 (0, 0))) := by
  unfold execOp
  rw [ho]
  kernel_rfl
theorem ht_bld9 (a : Act) (o : Oper) (ho : o.op = .build 70 #[(0, .const (.string ⟨#[109, 109, 97, 112]⟩)), (1, .tmp 17), (2, .const (.int .u64 40))]) (g : Nat) (hs : a.eval (.tmp 17) = .slice (some ⟨g, 0, none⟩) 3 3) (W : World) : (execOp a.eval o).run Try.prog W = .ok (.value (.agg #[.string ⟨#[109, 109, 97, 112]⟩, .slice (some ⟨g, 0, none⟩) 3 3, .int .u64 40])) W := by
  unfold execOp
  rw [ho]
  simp only [List.map_toArray, List.map_cons, List.map_nil, hs]
  kernel_rfl
theorem ht_lit10 (a : Act) (o : Oper) (ho : o.op = .buildSlice 32 4 #[(0, .const (.int .u8 1)), (1, .const (.int .u8 6)), (2, .const (.int .u8 0)), (3, .const (.int .u8 0))]) (W : World) : (execOp a.eval o).run Try.prog W = .ok (.value (.slice (some ⟨W.heap.size, 0, none⟩) 4 4)) (W.alloc (.cells #[.int .u8 1, .int .u8 6, .int .u8 0, .int .u8 0] 5 (0, 0))) := by
  unfold execOp
  rw [ho]
  kernel_rfl
theorem ht_bld10 (a : Act) (o : Oper) (ho : o.op = .build 70 #[(0, .const (.string ⟨#[109, 112, 114, 111, 116, 101, 99, 116]⟩)), (1, .tmp 19), (2, .const (.int .u64 40))]) (g : Nat) (hs : a.eval (.tmp 19) = .slice (some ⟨g, 0, none⟩) 4 4) (W : World) : (execOp a.eval o).run Try.prog W = .ok (.value (.agg #[.string ⟨#[109, 112, 114, 111, 116, 101, 99, 116]⟩, .slice (some ⟨g, 0, none⟩) 4 4, .int .u64 40])) W := by
  unfold execOp
  rw [ho]
  simp only [List.map_toArray, List.map_cons, List.map_nil, hs]
  kernel_rfl
theorem ht_lit11 (a : Act) (o : Oper) (ho : o.op = .buildSlice 32 2 #[(0, .const (.int .u8 1)), (1, .const (.int .u8 0))]) (W : World) : (execOp a.eval o).run Try.prog W = .ok (.value (.slice (some ⟨W.heap.size, 0, none⟩) 2 2)) (W.alloc (.cells #[.int .u8 1, .int .u8 0] 5 (0, 0))) := by
  unfold execOp
  rw [ho]
  kernel_rfl
theorem ht_bld11 (a : Act) (o : Oper) (ho : o.op = .build 70 #[(0, .const (.string ⟨#[102, 111, 114, 107]⟩)), (1, .tmp 21), (2, .const (.int .u64 12))]) (g : Nat) (hs : a.eval (.tmp 21) = .slice (some ⟨g, 0, none⟩) 2 2) (W : World) : (execOp a.eval o).run Try.prog W = .ok (.value (.agg #[.string ⟨#[102, 111, 114, 107]⟩, .slice (some ⟨g, 0, none⟩) 2 2, .int .u64 12])) W := by
  unfold execOp
  rw [ho]
  simp only [List.map_toArray, List.map_cons, List.map_nil, hs]
  kernel_rfl
theorem ht_lit12 (a : Act) (o : Oper) (ho : o.op = .buildSlice 32 3 #[(0, .const (.int .u8 1)), (1, .const (.int .u8 1)), (2, .const (.int .u8 0))]) (W : World) : (execOp a.eval o).run Try.prog W = .ok (.value (.slice (some ⟨W.heap.size, 0, none⟩) 3 3)) (W.alloc (.cells #[.int .u8 1, .int .u8 1, .int .u8 0] 5 (0, 0))) := by
  unfold execOp
  rw [ho]
  kernel_rfl
theorem ht_bld12 (a : Act) (o : Oper) (ho : o.op = .build 70 #[(0, .const (.string ⟨#[107, 105, 108, 108]⟩)), (1, .tmp 23), (2, .const (.int .u64 1))]) (g : Nat) (hs : a.eval (.tmp 23) = .slice (some ⟨g, 0, none⟩) 3 3) (W : World) : (execOp a.eval o).run Try.prog W = .ok (.value (.agg #[.string ⟨#[107, 105, 108, 108]⟩, .slice (some ⟨g, 0, none⟩) 3 3, .int .u64 1])) W := by
  unfold execOp
  rw [ho]
  simp only [List.map_toArray, List.map_cons, List.map_nil, hs]
  kernel_rfl
theorem ht_lit13 (a : Act) (o : Oper) (ho : o.op = .buildSlice 32 3 #[(0, .const (.int .u8 1)), (1, .const (.int .u8 1)), (2, .const (.int .u8 0))]) (W : World) : (execOp a.eval o).run Try.prog W = .ok (.value (.slice (some ⟨W.heap.size, 0, none⟩) 3 3)) (W.alloc (.cells #[.int .u8 1, .int .u8 1, .int .u8 0] 5 (0, 0))) := by
  unfold execOp
  rw [ho]
  kernel_rfl
theorem ht_bld13 (a : Act) (o : Oper) (ho : o.op = .build 70 #[(0, .const (.string ⟨#[112, 116, 114, 97, 99, 101]⟩)), (1, .tmp 25), (2, .const (.int .u64 1))]) (g : Nat) (hs : a.eval (.tmp 25) = .slice (some ⟨g, 0, none⟩) 3 3) (W : World) : (execOp a.eval o).run Try.prog W = .ok (.value (.agg #[.string ⟨#[112, 116, 114, 97, 99, 101]⟩, .slice (some ⟨g, 0, none⟩) 3 3, .int .u64 1])) W := by
  unfold execOp
  rw [ho]
  simp only [List.map_toArray, List.map_cons, List.map_nil, hs]
  kernel_rfl
theorem ht_lit14 (a : Act) (o : Oper) (ho : o.op = .buildSlice 32 3 #[(0, .const (.int .u8 1)), (1, .const (.int .u8 0)), (2, .const (.int .u8 0))]) (W : World) : (execOp a.eval o).run Try.prog W = .ok (.value (.slice (some ⟨W.heap.size, 0, none⟩) 3 3)) (W.alloc (.cells #[.int .u8 1, .int .u8 0, .int .u8 0] 5 (0, 0))) := by
  unfold execOp
  rw [ho]
  kernel_rfl
theorem ht_bld14 (a : Act) (o : Oper) (ho : o.op = .build 70 #[(0, .const (.string ⟨#[115, 101, 116, 105, 100]⟩)), (1, .tmp 27), (2, .const (.int .u64 1))]) (g : Nat) (hs : a.eval (.tmp 27) = .slice (some ⟨g, 0, none⟩) 3 3) (W : World) : (execOp a.eval o).run Try.prog W = .ok (.value (.agg #[.string ⟨#[115, 101, 116, 105, 100]⟩, .slice (some ⟨g, 0, none⟩) 3 3, .int .u64 1])) W := by
  unfold execOp
  rw [ho]
  simp only [List.map_toArray, List.map_cons, List.map_nil, hs]
  kernel_rfl
theorem ht_lit15 (a : Act) (o : Oper) (ho : o.op = .buildSlice 32 2 #[(0, .const (.int .u8 1)), (1, .const (.int .u8 2))]) (W : World) : (execOp a.eval o).run Try.prog W = .ok (.value (.slice (some ⟨W.heap.size, 0, none⟩) 2 2)) (W.alloc (.cells #[.int .u8 1, .int .u8 2] 5 (0, 0))) := by
  unfold execOp
  rw [ho]
  kernel_rfl
theorem ht_bld15 (a : Act) (o : Oper) (ho : o.op = .build 70 #[(0, .const (.string ⟨#[99, 104, 100, 105, 114]⟩)), (1, .tmp 29), (2, .const (.int .u64 40))]) (g : Nat) (hs : a.eval (.tmp 29) = .slice (some ⟨g, 0, none⟩) 2 2) (W : World) : (execOp a.eval o).run Try.prog W = .ok (.value (.agg #[.string ⟨#[99, 104, 100, 105, 114]⟩, .slice (some ⟨g, 0, none⟩) 2 2, .int .u64 40])) W := by
  unfold execOp
  rw [ho]
  simp only [List.map_toArray, List.map_cons, List.map_nil, hs]
  kernel_rfl
theorem ht_lit16 (a : Act) (o : Oper) (ho : o.op = .buildSlice 32 3 #[(0, .const (.int .u8 1)), (1, .const (.int .u8 2)), (2, .const (.int .u8 0))]) (W : World) : (execOp a.eval o).run Try.prog W = .ok (.value (.slice (some ⟨W.heap.size, 0, none⟩) 3 3)) (W.alloc (.cells #[.int .u8 1, .int .u8 2, .int .u8 0] 5 (0, 0))) := by
  unfold execOp
  rw [ho]
  kernel_rfl
theorem ht_bld16 (a : Act) (o : Oper) (ho : o.op = .build 70 #[(0, .const (.string ⟨#[103, 101, 116, 97, 116, 116, 114]⟩)), (1, .tmp 31), (2, .const (.int .u64 40))]) (g : Nat) (hs : a.eval (.tmp 31) = .slice (some ⟨g, 0, none⟩) 3 3) (W : World) : (execOp a.eval o).run Try.prog W = .ok (.value (.agg #[.string ⟨#[103, 101, 116, 97, 116, 116, 114]⟩, .slice (some ⟨g, 0, none⟩) 3 3, .int .u64 40])) W := by
  unfold execOp
  rw [ho]
  simp only [List.map_toArray, List.map_cons, List.map_nil, hs]
  kernel_rfl
theorem ht_all (a : Act) (o : Oper) (ho : o.op = .build 96 #[(1, .tmp 2), (2, .tmp 4), (3, .tmp 6), (4, .tmp 8), (5, .tmp 10), (6, .tmp 12), (7, .tmp 14), (8, .tmp 16), (9, .tmp 18), (10, .tmp 20), (11, .tmp 22), (12, .tmp 24), (13, .tmp 26), (14, .tmp 28), (15, .tmp 30), (16, .tmp 32)]) (g1 g2 g3 g4 g5 g6 g7 g8 g9 g10 g11 g12 g13 g14 g15 g16 : Nat) (h1 : a.eval (.tmp 2) = .agg #[.string ⟨#[111, 112, 101, 110]⟩, .slice (some ⟨g1, 0, none⟩) 3 3, .int .u64 40]) (h2 : a.eval (.tmp 4) = .agg #[.string ⟨#[97, 99, 99, 101, 115, 115]⟩, .slice (some ⟨g2, 0, none⟩) 3 3, .int .u64 40]) (h3 : a.eval (.tmp 6) = .agg #[.string ⟨#[99, 114, 101, 97, 116, 101]⟩, .slice (some ⟨g3, 0, none⟩) 4 4, .int .u64 40]) (h4 : a.eval (.tmp 8) = .agg #[.string ⟨#[108, 105, 110, 107]⟩, .slice (some ⟨g4, 0, none⟩) 3 3, .int .u64 40]) (h5 : a.eval (.tmp 10) = .agg #[.string ⟨#[117, 110, 108, 105, 110, 107]⟩, .slice (some ⟨g5, 0, none⟩) 4 4, .int .u64 40]) (h6 : a.eval (.tmp 12) = .agg #[.string ⟨#[114, 101, 110, 97, 109, 101]⟩, .slice (some ⟨g6, 0, none⟩) 5 5, .int .u64 40]) (h7 : a.eval (.tmp 14) = .agg #[.string ⟨#[115, 101, 116, 97, 116, 116, 114]⟩, .slice (some ⟨g7, 0, none⟩) 5 5, .int .u64 40]) (h8 : a.eval (.tmp 16) = .agg #[.string ⟨#[101, 120, 101, 99]⟩, .slice (some ⟨g8, 0, none⟩) 3 3, .int .u64 40]) (h9 : a.eval (.tmp 18) = .agg #[.string ⟨#[109, 109, 97, 112]⟩, .slice (some ⟨g9, 0, none⟩) 3 3, .int .u64 40]) (h10 : a.eval (.tmp 20) = .agg #[.string ⟨#[109, 112, 114, 111, 116, 101, 99, 116]⟩, .slice (some ⟨g10, 0, none⟩) 4 4, .int .u64 40]) (h11 : a.eval (.tmp 22) = .agg #[.string ⟨#[102, 111, 114, 107]⟩, .slice (some ⟨g11, 0, none⟩) 2 2, .int .u64 12]) (h12 : a.eval (.tmp 24) = .agg #[.string ⟨#[107, 105, 108, 108]⟩, .slice (some ⟨g12, 0, none⟩) 3 3, .int .u64 1]) (h13 : a.eval (.tmp 26) = .agg #[.string ⟨#[112, 116, 114, 97, 99, 101]⟩, .slice (some ⟨g13, 0, none⟩) 3 3, .int .u64 1]) (h14 : a.eval (.tmp 28) = .agg #[.string ⟨#[115, 101, 116, 105, 100]⟩, .slice (some ⟨g14, 0, none⟩) 3 3, .int .u64 1]) (h15 : a.eval (.tmp 30) = .agg #[.string ⟨#[99, 104, 100, 105, 114]⟩, .slice (some ⟨g15, 0, none⟩) 2 2, .int .u64 40]) (h16 : a.eval (.tmp 32) = .agg #[.string ⟨#[103, 101, 116, 97, 116, 116, 114]⟩, .slice (some ⟨g16, 0, none⟩) 3 3, .int .u64 40]) (W : World) : (execOp a.eval o).run Try.prog W = .ok (.value (.agg #[.string ⟨#[]⟩, .slice none 0 0, .int .u64 0, .string ⟨#[111, 112, 101, 110]⟩, .slice (some ⟨g1, 0, none⟩) 3 3, .int .u64 40, .string ⟨#[97, 99, 99, 101, 115, 115]⟩, .slice (some ⟨g2, 0, none⟩) 3 3, .int .u64 40, .string ⟨#[99, 114, 101, 97, 116, 101]⟩, .slice (some ⟨g3, 0, none⟩) 4 4, .int .u64 40, .string ⟨#[108, 105, 110, 107]⟩, .slice (some ⟨g4, 0, none⟩) 3 3, .int .u64 40, .string ⟨#[117, 110, 108, 105, 110, 107]⟩, .slice (some ⟨g5, 0, none⟩) 4 4, .int .u64 40, .string ⟨#[114, 101, 110, 97, 109, 101]⟩, .slice (some ⟨g6, 0, none⟩) 5 5, .int .u64 40, .string ⟨#[115, 101, 116, 97, 116, 116, 114]⟩, .slice (some ⟨g7, 0, none⟩) 5 5, .int .u64 40, .string ⟨#[101, 120, 101, 99]⟩, .slice (some ⟨g8, 0, none⟩) 3 3, .int .u64 40, .string ⟨#[109, 109, 97, 112]⟩, .slice (some ⟨g9, 0, none⟩) 3 3, .int .u64 40, .string ⟨#[109, 112, 114, 111, 116, 101, 99, 116]⟩, .slice (some ⟨g10, 0, none⟩) 4 4, .int .u64 40, .string ⟨#[102, 111, 114, 107]⟩, .slice (some ⟨g11, 0, none⟩) 2 2, .int .u64 12, .string ⟨#[107, 105, 108, 108]⟩, .slice (some ⟨g12, 0, none⟩) 3 3, .int .u64 1, .string ⟨#[112, 116, 114, 97, 99, 101]⟩, .slice (some ⟨g13, 0, none⟩) 3 3, .int .u64 1, .string ⟨#[115, 101, 116, 105, 100]⟩, .slice (some ⟨g14, 0, none⟩) 3 3, .int .u64 1, .string ⟨#[99, 104, 100, 105, 114]⟩, .slice (some ⟨g15, 0, none⟩) 2 2, .int .u64 40, .string ⟨#[103, 101, 116, 97, 116, 116, 114]⟩, .slice (some ⟨g16, 0, none⟩) 3 3, .int .u64 40])) W := by
  unfold execOp
  rw [ho]
  simp only [List.map_toArray, List.map_cons, List.map_nil, h1, h2, h3, h4, h5, h6, h7, h8, h9, h10, h11, h12, h13, h14, h15, h16]
  kernel_rfl
theorem hooks_s1 (g : Nat → Nat) : (Try.prog.info? 96).map (·.size) = some (hooksCells g).size := by kernel_rfl
theorem hooks_s2 (g : Nat → Nat) : (#[.string ⟨#[]⟩, .slice none 0 0, .int .u64 0, .string ⟨#[]⟩, .slice none 0 0, .int .u64 0, .string ⟨#[]⟩, .slice none 0 0, .int .u64 0, .string ⟨#[]⟩, .slice none 0 0, .int .u64 0, .string ⟨#[]⟩, .slice none 0 0, .int .u64 0, .string ⟨#[]⟩, .slice none 0 0, .int .u64 0, .string ⟨#[]⟩, .slice none 0 0, .int .u64 0, .string ⟨#[]⟩, .slice none 0 0, .int .u64 0, .string ⟨#[]⟩, .slice none 0 0, .int .u64 0, .string ⟨#[]⟩, .slice none 0 0, .int .u64 0, .string ⟨#[]⟩, .slice none 0 0, .int .u64 0, .string ⟨#[]⟩, .slice none 0 0, .int .u64 0, .string ⟨#[]⟩, .slice none 0 0, .int .u64 0, .string ⟨#[]⟩, .slice none 0 0, .int .u64 0, .string ⟨#[]⟩, .slice none 0 0, .int .u64 0, .string ⟨#[]⟩, .slice none 0 0, .int .u64 0, .string ⟨#[]⟩, .slice none 0 0, .int .u64 0] : Array Value).size = (hooksCells g).size := by kernel_rfl
theorem hooks_s3 (g : Nat → Nat) : (hooksCells g).all (·.oneCell') = true := by kernel_rfl
def hooksAt (w : World) (i : Nat) : Nat := (allocs w (hooksObjs.take (i - 1))).heap.size
/-- The words' blocks lie in the world. -/
def hooksIn (w0 w : World) (g : Nat → Nat) : Prop := ∀ i x, hooksObjs[i]? = some x → w.heap[g (i + 1)]? = some x ∧ w0.heap.size ≤ g (i + 1)
set_option maxHeartbeats 16000000 in
set_option maxRecDepth 100000 in
theorem hooks_table_calls (w : World) : Calls Try.prog 66 #[] w fun e w' => ∃ g : Nat → Nat, e = .returned (.agg (hooksCells g)) ∧ hooksIn w w' g ∧ Below w.heap.size w w' := by
  have HB := Aside0.mk (Below.refl w.heap.size w)
  go_enter Try.func66, Try.ntmps66
  apply wp_seq_k
  intro K hK
  apply wp_region_lit
  refine box_event rfl (N := 0) rfl (cs := #[.string ⟨#[]⟩, .slice none 0 0, .int .u64 0, .string ⟨#[]⟩, .slice none 0 0, .int .u64 0, .string ⟨#[]⟩, .slice none 0 0, .int .u64 0, .string ⟨#[]⟩, .slice none 0 0, .int .u64 0, .string ⟨#[]⟩, .slice none 0 0, .int .u64 0, .string ⟨#[]⟩, .slice none 0 0, .int .u64 0, .string ⟨#[]⟩, .slice none 0 0, .int .u64 0, .string ⟨#[]⟩, .slice none 0 0, .int .u64 0, .string ⟨#[]⟩, .slice none 0 0, .int .u64 0, .string ⟨#[]⟩, .slice none 0 0, .int .u64 0, .string ⟨#[]⟩, .slice none 0 0, .int .u64 0, .string ⟨#[]⟩, .slice none 0 0, .int .u64 0, .string ⟨#[]⟩, .slice none 0 0, .int .u64 0, .string ⟨#[]⟩, .slice none 0 0, .int .u64 0, .string ⟨#[]⟩, .slice none 0 0, .int .u64 0, .string ⟨#[]⟩, .slice none 0 0, .int .u64 0, .string ⟨#[]⟩, .slice none 0 0, .int .u64 0]) (t := 96) (by kernel_rfl) ?_
  intro g0 hg w0 hx hb
  apply wpList_nil
  show K _ _
  apply hK
  clear hK K
  have HB := below_step HB.out hb
  apply wp_seq_k
  intro K hK
  apply wp_region_lit
  refine Kd.event_run rfl (ht_lit1 _ _ rfl _) ?_
  simp only [Act.put, List.setIfInBounds_toArray, List.set_cons_zero, List.set_cons_succ]
  refine Kd.event_run rfl (ht_bld1 _ _ rfl _ rfl _) ?_
  simp only [Act.put, List.setIfInBounds_toArray, List.set_cons_zero, List.set_cons_succ]
  refine Kd.event_run rfl (ht_lit2 _ _ rfl _) ?_
  simp only [Act.put, List.setIfInBounds_toArray, List.set_cons_zero, List.set_cons_succ]
  refine Kd.event_run rfl (ht_bld2 _ _ rfl _ rfl _) ?_
  simp only [Act.put, List.setIfInBounds_toArray, List.set_cons_zero, List.set_cons_succ]
  refine Kd.event_run rfl (ht_lit3 _ _ rfl _) ?_
  simp only [Act.put, List.setIfInBounds_toArray, List.set_cons_zero, List.set_cons_succ]
  refine Kd.event_run rfl (ht_bld3 _ _ rfl _ rfl _) ?_
  simp only [Act.put, List.setIfInBounds_toArray, List.set_cons_zero, List.set_cons_succ]
  refine Kd.event_run rfl (ht_lit4 _ _ rfl _) ?_
  simp only [Act.put, List.setIfInBounds_toArray, List.set_cons_zero, List.set_cons_succ]
  refine Kd.event_run rfl (ht_bld4 _ _ rfl _ rfl _) ?_
  simp only [Act.put, List.setIfInBounds_toArray, List.set_cons_zero, List.set_cons_succ]
  refine Kd.event_run rfl (ht_lit5 _ _ rfl _) ?_
  simp only [Act.put, List.setIfInBounds_toArray, List.set_cons_zero, List.set_cons_succ]
  refine Kd.event_run rfl (ht_bld5 _ _ rfl _ rfl _) ?_
  simp only [Act.put, List.setIfInBounds_toArray, List.set_cons_zero, List.set_cons_succ]
  refine Kd.event_run rfl (ht_lit6 _ _ rfl _) ?_
  simp only [Act.put, List.setIfInBounds_toArray, List.set_cons_zero, List.set_cons_succ]
  refine Kd.event_run rfl (ht_bld6 _ _ rfl _ rfl _) ?_
  simp only [Act.put, List.setIfInBounds_toArray, List.set_cons_zero, List.set_cons_succ]
  refine Kd.event_run rfl (ht_lit7 _ _ rfl _) ?_
  simp only [Act.put, List.setIfInBounds_toArray, List.set_cons_zero, List.set_cons_succ]
  refine Kd.event_run rfl (ht_bld7 _ _ rfl _ rfl _) ?_
  simp only [Act.put, List.setIfInBounds_toArray, List.set_cons_zero, List.set_cons_succ]
  refine Kd.event_run rfl (ht_lit8 _ _ rfl _) ?_
  simp only [Act.put, List.setIfInBounds_toArray, List.set_cons_zero, List.set_cons_succ]
  refine Kd.event_run rfl (ht_bld8 _ _ rfl _ rfl _) ?_
  simp only [Act.put, List.setIfInBounds_toArray, List.set_cons_zero, List.set_cons_succ]
  refine Kd.event_run rfl (ht_lit9 _ _ rfl _) ?_
  simp only [Act.put, List.setIfInBounds_toArray, List.set_cons_zero, List.set_cons_succ]
  refine Kd.event_run rfl (ht_bld9 _ _ rfl _ rfl _) ?_
  simp only [Act.put, List.setIfInBounds_toArray, List.set_cons_zero, List.set_cons_succ]
  refine Kd.event_run rfl (ht_lit10 _ _ rfl _) ?_
  simp only [Act.put, List.setIfInBounds_toArray, List.set_cons_zero, List.set_cons_succ]
  refine Kd.event_run rfl (ht_bld10 _ _ rfl _ rfl _) ?_
  simp only [Act.put, List.setIfInBounds_toArray, List.set_cons_zero, List.set_cons_succ]
  refine Kd.event_run rfl (ht_lit11 _ _ rfl _) ?_
  simp only [Act.put, List.setIfInBounds_toArray, List.set_cons_zero, List.set_cons_succ]
  refine Kd.event_run rfl (ht_bld11 _ _ rfl _ rfl _) ?_
  simp only [Act.put, List.setIfInBounds_toArray, List.set_cons_zero, List.set_cons_succ]
  refine Kd.event_run rfl (ht_lit12 _ _ rfl _) ?_
  simp only [Act.put, List.setIfInBounds_toArray, List.set_cons_zero, List.set_cons_succ]
  refine Kd.event_run rfl (ht_bld12 _ _ rfl _ rfl _) ?_
  simp only [Act.put, List.setIfInBounds_toArray, List.set_cons_zero, List.set_cons_succ]
  refine Kd.event_run rfl (ht_lit13 _ _ rfl _) ?_
  simp only [Act.put, List.setIfInBounds_toArray, List.set_cons_zero, List.set_cons_succ]
  refine Kd.event_run rfl (ht_bld13 _ _ rfl _ rfl _) ?_
  simp only [Act.put, List.setIfInBounds_toArray, List.set_cons_zero, List.set_cons_succ]
  refine Kd.event_run rfl (ht_lit14 _ _ rfl _) ?_
  simp only [Act.put, List.setIfInBounds_toArray, List.set_cons_zero, List.set_cons_succ]
  refine Kd.event_run rfl (ht_bld14 _ _ rfl _ rfl _) ?_
  simp only [Act.put, List.setIfInBounds_toArray, List.set_cons_zero, List.set_cons_succ]
  refine Kd.event_run rfl (ht_lit15 _ _ rfl _) ?_
  simp only [Act.put, List.setIfInBounds_toArray, List.set_cons_zero, List.set_cons_succ]
  refine Kd.event_run rfl (ht_bld15 _ _ rfl _ rfl _) ?_
  simp only [Act.put, List.setIfInBounds_toArray, List.set_cons_zero, List.set_cons_succ]
  refine Kd.event_run rfl (ht_lit16 _ _ rfl _) ?_
  simp only [Act.put, List.setIfInBounds_toArray, List.set_cons_zero, List.set_cons_succ]
  refine Kd.event_run rfl (ht_bld16 _ _ rfl _ rfl _) ?_
  simp only [Act.put, List.setIfInBounds_toArray, List.set_cons_zero, List.set_cons_succ]
  refine Kd.event_run rfl (ht_all _ _ rfl _ _ _ _ _ _ _ _ _ _ _ _ _ _ _ _ rfl rfl rfl rfl rfl rfl rfl rfl rfl rfl rfl rfl rfl rfl rfl rfl _) ?_
  simp only [Act.put, List.setIfInBounds_toArray, List.set_cons_zero, List.set_cons_succ]
  have e : ∀ i x, hooksObjs[i]? = some x → (allocs w0 hooksObjs).heap[hooksAt w0 (i + 1)]? = some x ∧ w0.heap.size ≤ hooksAt w0 (i + 1) := by
    intro i x hx
    have hl : i < hooksObjs.length := (List.getElem?_eq_some_iff.1 hx).1
    have es : hooksAt w0 (i + 1) = w0.heap.size + i := by
      unfold hooksAt
      rw [allocs_size, List.length_take]
      omega
    rw [es]
    exact ⟨allocs_heap hooksObjs w0 i x hx, by omega⟩
  have b0 := allocs_below hooksObjs w0
  refine wstore_event (W := allocs w0 hooksObjs) rfl (ty := 96) (x := .tmp 0) (y := .tmp 33) rfl (g := g0) (cs := hooksCells (hooksAt w0)) rfl rfl (blk_below hx b0) (hooks_s1 _) (hooks_s2 _) (hooks_s3 _) ?_
  intro w1 hc hb1 ho
  have hg0 : g0 < w0.heap.size := blk_lt hx
  have HB2 : Below w.heap.size w w1 := (below_step HB b0).trans (hb1 w.heap.size (by omega))
  have HI : hooksIn w w1 (hooksAt w0) := fun i x hx => ⟨(ho _ (by have := (e i x hx).2; omega)).trans (e i x hx).1, by have := (e i x hx).2; omega⟩
  clear e b0 hb1 ho hb HB
  apply wpList_nil
  show K _ _
  apply hK
  clear hK K
  apply wp_ret
  refine bodyPost_ret (results_cell_row rfl _ _ g0 96 (hooksCells (hooksAt w0)) (0, 0) _ rfl hc Try.underlying96 rfl (hooks_s1 _)) rfl ?_
  exact ⟨hooksAt w0, rfl, HI, HB2⟩
def hooksIs0 (n : ByteArray) : Bool := (⟨#[]⟩ : ByteArray).toList == n.toList && !n.toList.isEmpty
def hooksIs1 (n : ByteArray) : Bool := (⟨#[111, 112, 101, 110]⟩ : ByteArray).toList == n.toList && !n.toList.isEmpty
def hooksIs2 (n : ByteArray) : Bool := (⟨#[97, 99, 99, 101, 115, 115]⟩ : ByteArray).toList == n.toList && !n.toList.isEmpty
def hooksIs3 (n : ByteArray) : Bool := (⟨#[99, 114, 101, 97, 116, 101]⟩ : ByteArray).toList == n.toList && !n.toList.isEmpty
def hooksIs4 (n : ByteArray) : Bool := (⟨#[108, 105, 110, 107]⟩ : ByteArray).toList == n.toList && !n.toList.isEmpty
def hooksIs5 (n : ByteArray) : Bool := (⟨#[117, 110, 108, 105, 110, 107]⟩ : ByteArray).toList == n.toList && !n.toList.isEmpty
def hooksIs6 (n : ByteArray) : Bool := (⟨#[114, 101, 110, 97, 109, 101]⟩ : ByteArray).toList == n.toList && !n.toList.isEmpty
def hooksIs7 (n : ByteArray) : Bool := (⟨#[115, 101, 116, 97, 116, 116, 114]⟩ : ByteArray).toList == n.toList && !n.toList.isEmpty
def hooksIs8 (n : ByteArray) : Bool := (⟨#[101, 120, 101, 99]⟩ : ByteArray).toList == n.toList && !n.toList.isEmpty
def hooksIs9 (n : ByteArray) : Bool := (⟨#[109, 109, 97, 112]⟩ : ByteArray).toList == n.toList && !n.toList.isEmpty
def hooksIs10 (n : ByteArray) : Bool := (⟨#[109, 112, 114, 111, 116, 101, 99, 116]⟩ : ByteArray).toList == n.toList && !n.toList.isEmpty
def hooksIs11 (n : ByteArray) : Bool := (⟨#[102, 111, 114, 107]⟩ : ByteArray).toList == n.toList && !n.toList.isEmpty
def hooksIs12 (n : ByteArray) : Bool := (⟨#[107, 105, 108, 108]⟩ : ByteArray).toList == n.toList && !n.toList.isEmpty
def hooksIs13 (n : ByteArray) : Bool := (⟨#[112, 116, 114, 97, 99, 101]⟩ : ByteArray).toList == n.toList && !n.toList.isEmpty
def hooksIs14 (n : ByteArray) : Bool := (⟨#[115, 101, 116, 105, 100]⟩ : ByteArray).toList == n.toList && !n.toList.isEmpty
def hooksIs15 (n : ByteArray) : Bool := (⟨#[99, 104, 100, 105, 114]⟩ : ByteArray).toList == n.toList && !n.toList.isEmpty
def hooksIs16 (n : ByteArray) : Bool := (⟨#[103, 101, 116, 97, 116, 116, 114]⟩ : ByteArray).toList == n.toList && !n.toList.isEmpty
/-- The first name that is the one asked for, and isn't empty. -/
def hooksIdx (n : ByteArray) : Int := if hooksIs0 n = true then 0 else (if hooksIs1 n = true then 1 else (if hooksIs2 n = true then 2 else (if hooksIs3 n = true then 3 else (if hooksIs4 n = true then 4 else (if hooksIs5 n = true then 5 else (if hooksIs6 n = true then 6 else (if hooksIs7 n = true then 7 else (if hooksIs8 n = true then 8 else (if hooksIs9 n = true then 9 else (if hooksIs10 n = true then 10 else (if hooksIs11 n = true then 11 else (if hooksIs12 n = true then 12 else (if hooksIs13 n = true then 13 else (if hooksIs14 n = true then 14 else (if hooksIs15 n = true then 15 else (if hooksIs16 n = true then 16 else (-1)))))))))))))))))
def hooks_By.f (a0 : ByteArray) : Option Int := some (mx (hooksIdx a0) 0)
set_option maxHeartbeats 4000000 in
set_option maxRecDepth 100000 in
theorem hooks_eq_calls (s n : ByteArray) (v : Value) (m : Int) (p : Nat) (w : World) (h : w.heap[p]? = some (.cells #[.string n] 9 (0, 0))) : Calls Try.prog 68 #[.agg #[.string s, v, .int .u64 m], .pointer (some ⟨p, 0, none⟩)] w fun e w' => e = .returned (.bool (s.toList == n.toList && !n.toList.isEmpty)) ∧ Below w.heap.size w w' := by
  have hu70 := Try.underlying70
  go_enter Try.func68, Try.ntmps68
  go_wp2_with ((with_reducible refine gate_dst (N := 2) rfl ?_); refine box_event ?hg (N := 2) ?hd (cs := #[.string s, v, .int .u64 m]) (t := 70) ?hr ?_; (case hd => rfl); (case hg => rfl); (case hr => first | (go_simp; done) | (go_simp; rfl)); intro g hg w1 hx hb; have c1 : w1.cell? ⟨p, 0, none⟩ = some (.string n) := (blk_cell (blk_below h hb) 0).trans rfl; have c2 : w1.cell? ⟨g, 0, none⟩ = some (.string s) := (blk_cell hx 0).trans rfl; clear hg hx)
  all_goals (go_ret; refine ⟨by simp_all, hb⟩)
set_option maxHeartbeats 16000000 in
set_option maxRecDepth 100000 in
theorem hooks_index_calls (n : ByteArray) (g3 gn : Nat) (g : Nat → Nat) (w : World) (h3 : w.heap[g3]? = some (.cells (hooksCells g) 96 (0, 0))) (hn : w.heap[gn]? = some (.cells #[.string n] 9 (0, 0))) :
    Calls Try.prog 67 #[.slice (some ⟨g3, 0, none⟩) 17 17, .func (.func 68) #[] #[.pointer (some ⟨gn, 0, none⟩)]] w fun e w' => e = .returned (.int .i64 (hooksIdx n)) ∧ Below w.heap.size w w' := by
  have hu99 := Try.underlying99
  have hu70 := Try.underlying70
  have HB := Aside0.mk (Below.refl w.heap.size w)
  have B3 := Aside0.mk h3
  have BN := Aside0.mk hn
  clear h3 hn
  go_enter Try.func67, Try.ntmps67
  go_wp2
  refine wp_loop_rounds 18 ?_
  rw [Code.rounds]
  have hc0 := (show _ = some (Value.string ⟨#[]⟩) from (blk_cell B3.out 0).trans (by kernel_rfl))
  have hc1 := (show _ = some (Value.slice none 0 0) from (blk_cell B3.out 1).trans (by kernel_rfl))
  have hc2 := (show _ = some (Value.int .u64 0) from (blk_cell B3.out 2).trans (by kernel_rfl))
  cases q0 : hooksIs0 n with
  | true =>
    have hq0 : ((⟨#[]⟩ : ByteArray).toList == n.toList && !n.toList.isEmpty) = true := q0
    go_wp2_with (go_at_call 68; refine (hooks_eq_calls ⟨#[]⟩ n (.slice none 0 0) 0 gn _ BN.out).mono ?_; rintro e wk ⟨rfl, hb⟩; have n3_ := Aside0.mk (blk_below B3.out hb); have nn_ := Aside0.mk (blk_below BN.out hb); have nB_ := Aside0.mk (below_step HB.out hb); clear B3 BN HB hb hc0 hc1 hc2; have B3 := n3_; have BN := nn_; have HB := nB_; clear n3_ nn_ nB_; dsimp only; rw [hq0])
    go_ret
    have hx : hooksIdx n = 0 := by unfold hooksIdx; rw [if_pos q0]
    refine ⟨?_, HB.out⟩
    rw [hx]
    rfl
  | false =>
    have hq0 : ((⟨#[]⟩ : ByteArray).toList == n.toList && !n.toList.isEmpty) = false := q0
    go_wp2_with (go_at_call 68; refine (hooks_eq_calls ⟨#[]⟩ n (.slice none 0 0) 0 gn _ BN.out).mono ?_; rintro e wk ⟨rfl, hb⟩; have n3_ := Aside0.mk (blk_below B3.out hb); have nn_ := Aside0.mk (blk_below BN.out hb); have nB_ := Aside0.mk (below_step HB.out hb); clear B3 BN HB hb hc0 hc1 hc2; have B3 := n3_; have BN := nn_; have HB := nB_; clear n3_ nn_ nB_; dsimp only; rw [hq0])
    clear hq0
    rw [Code.rounds]
    have hc0 := (show _ = some (Value.string ⟨#[111, 112, 101, 110]⟩) from (blk_cell B3.out 3).trans (by kernel_rfl))
    have hc1 := (show _ = some (Value.slice (some ⟨g 1, 0, none⟩) 3 3) from (blk_cell B3.out 4).trans (by kernel_rfl))
    have hc2 := (show _ = some (Value.int .u64 40) from (blk_cell B3.out 5).trans (by kernel_rfl))
    cases q1 : hooksIs1 n with
    | true =>
      have hq1 : ((⟨#[111, 112, 101, 110]⟩ : ByteArray).toList == n.toList && !n.toList.isEmpty) = true := q1
      go_wp2_with (go_at_call 68; refine (hooks_eq_calls ⟨#[111, 112, 101, 110]⟩ n (.slice (some ⟨g 1, 0, none⟩) 3 3) 40 gn _ BN.out).mono ?_; rintro e wk ⟨rfl, hb⟩; have n3_ := Aside0.mk (blk_below B3.out hb); have nn_ := Aside0.mk (blk_below BN.out hb); have nB_ := Aside0.mk (below_step HB.out hb); clear B3 BN HB hb hc0 hc1 hc2; have B3 := n3_; have BN := nn_; have HB := nB_; clear n3_ nn_ nB_; dsimp only; rw [hq1])
      go_ret
      have hx : hooksIdx n = 1 := by unfold hooksIdx; rw [if_neg (by rw [q0]; decide), if_pos q1]
      refine ⟨?_, HB.out⟩
      rw [hx]
      rfl
    | false =>
      have hq1 : ((⟨#[111, 112, 101, 110]⟩ : ByteArray).toList == n.toList && !n.toList.isEmpty) = false := q1
      go_wp2_with (go_at_call 68; refine (hooks_eq_calls ⟨#[111, 112, 101, 110]⟩ n (.slice (some ⟨g 1, 0, none⟩) 3 3) 40 gn _ BN.out).mono ?_; rintro e wk ⟨rfl, hb⟩; have n3_ := Aside0.mk (blk_below B3.out hb); have nn_ := Aside0.mk (blk_below BN.out hb); have nB_ := Aside0.mk (below_step HB.out hb); clear B3 BN HB hb hc0 hc1 hc2; have B3 := n3_; have BN := nn_; have HB := nB_; clear n3_ nn_ nB_; dsimp only; rw [hq1])
      clear hq1
      rw [Code.rounds]
      have hc0 := (show _ = some (Value.string ⟨#[97, 99, 99, 101, 115, 115]⟩) from (blk_cell B3.out 6).trans (by kernel_rfl))
      have hc1 := (show _ = some (Value.slice (some ⟨g 2, 0, none⟩) 3 3) from (blk_cell B3.out 7).trans (by kernel_rfl))
      have hc2 := (show _ = some (Value.int .u64 40) from (blk_cell B3.out 8).trans (by kernel_rfl))
      cases q2 : hooksIs2 n with
      | true =>
        have hq2 : ((⟨#[97, 99, 99, 101, 115, 115]⟩ : ByteArray).toList == n.toList && !n.toList.isEmpty) = true := q2
        go_wp2_with (go_at_call 68; refine (hooks_eq_calls ⟨#[97, 99, 99, 101, 115, 115]⟩ n (.slice (some ⟨g 2, 0, none⟩) 3 3) 40 gn _ BN.out).mono ?_; rintro e wk ⟨rfl, hb⟩; have n3_ := Aside0.mk (blk_below B3.out hb); have nn_ := Aside0.mk (blk_below BN.out hb); have nB_ := Aside0.mk (below_step HB.out hb); clear B3 BN HB hb hc0 hc1 hc2; have B3 := n3_; have BN := nn_; have HB := nB_; clear n3_ nn_ nB_; dsimp only; rw [hq2])
        go_ret
        have hx : hooksIdx n = 2 := by unfold hooksIdx; rw [if_neg (by rw [q0]; decide), if_neg (by rw [q1]; decide), if_pos q2]
        refine ⟨?_, HB.out⟩
        rw [hx]
        rfl
      | false =>
        have hq2 : ((⟨#[97, 99, 99, 101, 115, 115]⟩ : ByteArray).toList == n.toList && !n.toList.isEmpty) = false := q2
        go_wp2_with (go_at_call 68; refine (hooks_eq_calls ⟨#[97, 99, 99, 101, 115, 115]⟩ n (.slice (some ⟨g 2, 0, none⟩) 3 3) 40 gn _ BN.out).mono ?_; rintro e wk ⟨rfl, hb⟩; have n3_ := Aside0.mk (blk_below B3.out hb); have nn_ := Aside0.mk (blk_below BN.out hb); have nB_ := Aside0.mk (below_step HB.out hb); clear B3 BN HB hb hc0 hc1 hc2; have B3 := n3_; have BN := nn_; have HB := nB_; clear n3_ nn_ nB_; dsimp only; rw [hq2])
        clear hq2
        rw [Code.rounds]
        have hc0 := (show _ = some (Value.string ⟨#[99, 114, 101, 97, 116, 101]⟩) from (blk_cell B3.out 9).trans (by kernel_rfl))
        have hc1 := (show _ = some (Value.slice (some ⟨g 3, 0, none⟩) 4 4) from (blk_cell B3.out 10).trans (by kernel_rfl))
        have hc2 := (show _ = some (Value.int .u64 40) from (blk_cell B3.out 11).trans (by kernel_rfl))
        cases q3 : hooksIs3 n with
        | true =>
          have hq3 : ((⟨#[99, 114, 101, 97, 116, 101]⟩ : ByteArray).toList == n.toList && !n.toList.isEmpty) = true := q3
          go_wp2_with (go_at_call 68; refine (hooks_eq_calls ⟨#[99, 114, 101, 97, 116, 101]⟩ n (.slice (some ⟨g 3, 0, none⟩) 4 4) 40 gn _ BN.out).mono ?_; rintro e wk ⟨rfl, hb⟩; have n3_ := Aside0.mk (blk_below B3.out hb); have nn_ := Aside0.mk (blk_below BN.out hb); have nB_ := Aside0.mk (below_step HB.out hb); clear B3 BN HB hb hc0 hc1 hc2; have B3 := n3_; have BN := nn_; have HB := nB_; clear n3_ nn_ nB_; dsimp only; rw [hq3])
          go_ret
          have hx : hooksIdx n = 3 := by unfold hooksIdx; rw [if_neg (by rw [q0]; decide), if_neg (by rw [q1]; decide), if_neg (by rw [q2]; decide), if_pos q3]
          refine ⟨?_, HB.out⟩
          rw [hx]
          rfl
        | false =>
          have hq3 : ((⟨#[99, 114, 101, 97, 116, 101]⟩ : ByteArray).toList == n.toList && !n.toList.isEmpty) = false := q3
          go_wp2_with (go_at_call 68; refine (hooks_eq_calls ⟨#[99, 114, 101, 97, 116, 101]⟩ n (.slice (some ⟨g 3, 0, none⟩) 4 4) 40 gn _ BN.out).mono ?_; rintro e wk ⟨rfl, hb⟩; have n3_ := Aside0.mk (blk_below B3.out hb); have nn_ := Aside0.mk (blk_below BN.out hb); have nB_ := Aside0.mk (below_step HB.out hb); clear B3 BN HB hb hc0 hc1 hc2; have B3 := n3_; have BN := nn_; have HB := nB_; clear n3_ nn_ nB_; dsimp only; rw [hq3])
          clear hq3
          rw [Code.rounds]
          have hc0 := (show _ = some (Value.string ⟨#[108, 105, 110, 107]⟩) from (blk_cell B3.out 12).trans (by kernel_rfl))
          have hc1 := (show _ = some (Value.slice (some ⟨g 4, 0, none⟩) 3 3) from (blk_cell B3.out 13).trans (by kernel_rfl))
          have hc2 := (show _ = some (Value.int .u64 40) from (blk_cell B3.out 14).trans (by kernel_rfl))
          cases q4 : hooksIs4 n with
          | true =>
            have hq4 : ((⟨#[108, 105, 110, 107]⟩ : ByteArray).toList == n.toList && !n.toList.isEmpty) = true := q4
            go_wp2_with (go_at_call 68; refine (hooks_eq_calls ⟨#[108, 105, 110, 107]⟩ n (.slice (some ⟨g 4, 0, none⟩) 3 3) 40 gn _ BN.out).mono ?_; rintro e wk ⟨rfl, hb⟩; have n3_ := Aside0.mk (blk_below B3.out hb); have nn_ := Aside0.mk (blk_below BN.out hb); have nB_ := Aside0.mk (below_step HB.out hb); clear B3 BN HB hb hc0 hc1 hc2; have B3 := n3_; have BN := nn_; have HB := nB_; clear n3_ nn_ nB_; dsimp only; rw [hq4])
            go_ret
            have hx : hooksIdx n = 4 := by unfold hooksIdx; rw [if_neg (by rw [q0]; decide), if_neg (by rw [q1]; decide), if_neg (by rw [q2]; decide), if_neg (by rw [q3]; decide), if_pos q4]
            refine ⟨?_, HB.out⟩
            rw [hx]
            rfl
          | false =>
            have hq4 : ((⟨#[108, 105, 110, 107]⟩ : ByteArray).toList == n.toList && !n.toList.isEmpty) = false := q4
            go_wp2_with (go_at_call 68; refine (hooks_eq_calls ⟨#[108, 105, 110, 107]⟩ n (.slice (some ⟨g 4, 0, none⟩) 3 3) 40 gn _ BN.out).mono ?_; rintro e wk ⟨rfl, hb⟩; have n3_ := Aside0.mk (blk_below B3.out hb); have nn_ := Aside0.mk (blk_below BN.out hb); have nB_ := Aside0.mk (below_step HB.out hb); clear B3 BN HB hb hc0 hc1 hc2; have B3 := n3_; have BN := nn_; have HB := nB_; clear n3_ nn_ nB_; dsimp only; rw [hq4])
            clear hq4
            rw [Code.rounds]
            have hc0 := (show _ = some (Value.string ⟨#[117, 110, 108, 105, 110, 107]⟩) from (blk_cell B3.out 15).trans (by kernel_rfl))
            have hc1 := (show _ = some (Value.slice (some ⟨g 5, 0, none⟩) 4 4) from (blk_cell B3.out 16).trans (by kernel_rfl))
            have hc2 := (show _ = some (Value.int .u64 40) from (blk_cell B3.out 17).trans (by kernel_rfl))
            cases q5 : hooksIs5 n with
            | true =>
              have hq5 : ((⟨#[117, 110, 108, 105, 110, 107]⟩ : ByteArray).toList == n.toList && !n.toList.isEmpty) = true := q5
              go_wp2_with (go_at_call 68; refine (hooks_eq_calls ⟨#[117, 110, 108, 105, 110, 107]⟩ n (.slice (some ⟨g 5, 0, none⟩) 4 4) 40 gn _ BN.out).mono ?_; rintro e wk ⟨rfl, hb⟩; have n3_ := Aside0.mk (blk_below B3.out hb); have nn_ := Aside0.mk (blk_below BN.out hb); have nB_ := Aside0.mk (below_step HB.out hb); clear B3 BN HB hb hc0 hc1 hc2; have B3 := n3_; have BN := nn_; have HB := nB_; clear n3_ nn_ nB_; dsimp only; rw [hq5])
              go_ret
              have hx : hooksIdx n = 5 := by unfold hooksIdx; rw [if_neg (by rw [q0]; decide), if_neg (by rw [q1]; decide), if_neg (by rw [q2]; decide), if_neg (by rw [q3]; decide), if_neg (by rw [q4]; decide), if_pos q5]
              refine ⟨?_, HB.out⟩
              rw [hx]
              rfl
            | false =>
              have hq5 : ((⟨#[117, 110, 108, 105, 110, 107]⟩ : ByteArray).toList == n.toList && !n.toList.isEmpty) = false := q5
              go_wp2_with (go_at_call 68; refine (hooks_eq_calls ⟨#[117, 110, 108, 105, 110, 107]⟩ n (.slice (some ⟨g 5, 0, none⟩) 4 4) 40 gn _ BN.out).mono ?_; rintro e wk ⟨rfl, hb⟩; have n3_ := Aside0.mk (blk_below B3.out hb); have nn_ := Aside0.mk (blk_below BN.out hb); have nB_ := Aside0.mk (below_step HB.out hb); clear B3 BN HB hb hc0 hc1 hc2; have B3 := n3_; have BN := nn_; have HB := nB_; clear n3_ nn_ nB_; dsimp only; rw [hq5])
              clear hq5
              rw [Code.rounds]
              have hc0 := (show _ = some (Value.string ⟨#[114, 101, 110, 97, 109, 101]⟩) from (blk_cell B3.out 18).trans (by kernel_rfl))
              have hc1 := (show _ = some (Value.slice (some ⟨g 6, 0, none⟩) 5 5) from (blk_cell B3.out 19).trans (by kernel_rfl))
              have hc2 := (show _ = some (Value.int .u64 40) from (blk_cell B3.out 20).trans (by kernel_rfl))
              cases q6 : hooksIs6 n with
              | true =>
                have hq6 : ((⟨#[114, 101, 110, 97, 109, 101]⟩ : ByteArray).toList == n.toList && !n.toList.isEmpty) = true := q6
                go_wp2_with (go_at_call 68; refine (hooks_eq_calls ⟨#[114, 101, 110, 97, 109, 101]⟩ n (.slice (some ⟨g 6, 0, none⟩) 5 5) 40 gn _ BN.out).mono ?_; rintro e wk ⟨rfl, hb⟩; have n3_ := Aside0.mk (blk_below B3.out hb); have nn_ := Aside0.mk (blk_below BN.out hb); have nB_ := Aside0.mk (below_step HB.out hb); clear B3 BN HB hb hc0 hc1 hc2; have B3 := n3_; have BN := nn_; have HB := nB_; clear n3_ nn_ nB_; dsimp only; rw [hq6])
                go_ret
                have hx : hooksIdx n = 6 := by unfold hooksIdx; rw [if_neg (by rw [q0]; decide), if_neg (by rw [q1]; decide), if_neg (by rw [q2]; decide), if_neg (by rw [q3]; decide), if_neg (by rw [q4]; decide), if_neg (by rw [q5]; decide), if_pos q6]
                refine ⟨?_, HB.out⟩
                rw [hx]
                rfl
              | false =>
                have hq6 : ((⟨#[114, 101, 110, 97, 109, 101]⟩ : ByteArray).toList == n.toList && !n.toList.isEmpty) = false := q6
                go_wp2_with (go_at_call 68; refine (hooks_eq_calls ⟨#[114, 101, 110, 97, 109, 101]⟩ n (.slice (some ⟨g 6, 0, none⟩) 5 5) 40 gn _ BN.out).mono ?_; rintro e wk ⟨rfl, hb⟩; have n3_ := Aside0.mk (blk_below B3.out hb); have nn_ := Aside0.mk (blk_below BN.out hb); have nB_ := Aside0.mk (below_step HB.out hb); clear B3 BN HB hb hc0 hc1 hc2; have B3 := n3_; have BN := nn_; have HB := nB_; clear n3_ nn_ nB_; dsimp only; rw [hq6])
                clear hq6
                rw [Code.rounds]
                have hc0 := (show _ = some (Value.string ⟨#[115, 101, 116, 97, 116, 116, 114]⟩) from (blk_cell B3.out 21).trans (by kernel_rfl))
                have hc1 := (show _ = some (Value.slice (some ⟨g 7, 0, none⟩) 5 5) from (blk_cell B3.out 22).trans (by kernel_rfl))
                have hc2 := (show _ = some (Value.int .u64 40) from (blk_cell B3.out 23).trans (by kernel_rfl))
                cases q7 : hooksIs7 n with
                | true =>
                  have hq7 : ((⟨#[115, 101, 116, 97, 116, 116, 114]⟩ : ByteArray).toList == n.toList && !n.toList.isEmpty) = true := q7
                  go_wp2_with (go_at_call 68; refine (hooks_eq_calls ⟨#[115, 101, 116, 97, 116, 116, 114]⟩ n (.slice (some ⟨g 7, 0, none⟩) 5 5) 40 gn _ BN.out).mono ?_; rintro e wk ⟨rfl, hb⟩; have n3_ := Aside0.mk (blk_below B3.out hb); have nn_ := Aside0.mk (blk_below BN.out hb); have nB_ := Aside0.mk (below_step HB.out hb); clear B3 BN HB hb hc0 hc1 hc2; have B3 := n3_; have BN := nn_; have HB := nB_; clear n3_ nn_ nB_; dsimp only; rw [hq7])
                  go_ret
                  have hx : hooksIdx n = 7 := by unfold hooksIdx; rw [if_neg (by rw [q0]; decide), if_neg (by rw [q1]; decide), if_neg (by rw [q2]; decide), if_neg (by rw [q3]; decide), if_neg (by rw [q4]; decide), if_neg (by rw [q5]; decide), if_neg (by rw [q6]; decide), if_pos q7]
                  refine ⟨?_, HB.out⟩
                  rw [hx]
                  rfl
                | false =>
                  have hq7 : ((⟨#[115, 101, 116, 97, 116, 116, 114]⟩ : ByteArray).toList == n.toList && !n.toList.isEmpty) = false := q7
                  go_wp2_with (go_at_call 68; refine (hooks_eq_calls ⟨#[115, 101, 116, 97, 116, 116, 114]⟩ n (.slice (some ⟨g 7, 0, none⟩) 5 5) 40 gn _ BN.out).mono ?_; rintro e wk ⟨rfl, hb⟩; have n3_ := Aside0.mk (blk_below B3.out hb); have nn_ := Aside0.mk (blk_below BN.out hb); have nB_ := Aside0.mk (below_step HB.out hb); clear B3 BN HB hb hc0 hc1 hc2; have B3 := n3_; have BN := nn_; have HB := nB_; clear n3_ nn_ nB_; dsimp only; rw [hq7])
                  clear hq7
                  rw [Code.rounds]
                  have hc0 := (show _ = some (Value.string ⟨#[101, 120, 101, 99]⟩) from (blk_cell B3.out 24).trans (by kernel_rfl))
                  have hc1 := (show _ = some (Value.slice (some ⟨g 8, 0, none⟩) 3 3) from (blk_cell B3.out 25).trans (by kernel_rfl))
                  have hc2 := (show _ = some (Value.int .u64 40) from (blk_cell B3.out 26).trans (by kernel_rfl))
                  cases q8 : hooksIs8 n with
                  | true =>
                    have hq8 : ((⟨#[101, 120, 101, 99]⟩ : ByteArray).toList == n.toList && !n.toList.isEmpty) = true := q8
                    go_wp2_with (go_at_call 68; refine (hooks_eq_calls ⟨#[101, 120, 101, 99]⟩ n (.slice (some ⟨g 8, 0, none⟩) 3 3) 40 gn _ BN.out).mono ?_; rintro e wk ⟨rfl, hb⟩; have n3_ := Aside0.mk (blk_below B3.out hb); have nn_ := Aside0.mk (blk_below BN.out hb); have nB_ := Aside0.mk (below_step HB.out hb); clear B3 BN HB hb hc0 hc1 hc2; have B3 := n3_; have BN := nn_; have HB := nB_; clear n3_ nn_ nB_; dsimp only; rw [hq8])
                    go_ret
                    have hx : hooksIdx n = 8 := by unfold hooksIdx; rw [if_neg (by rw [q0]; decide), if_neg (by rw [q1]; decide), if_neg (by rw [q2]; decide), if_neg (by rw [q3]; decide), if_neg (by rw [q4]; decide), if_neg (by rw [q5]; decide), if_neg (by rw [q6]; decide), if_neg (by rw [q7]; decide), if_pos q8]
                    refine ⟨?_, HB.out⟩
                    rw [hx]
                    rfl
                  | false =>
                    have hq8 : ((⟨#[101, 120, 101, 99]⟩ : ByteArray).toList == n.toList && !n.toList.isEmpty) = false := q8
                    go_wp2_with (go_at_call 68; refine (hooks_eq_calls ⟨#[101, 120, 101, 99]⟩ n (.slice (some ⟨g 8, 0, none⟩) 3 3) 40 gn _ BN.out).mono ?_; rintro e wk ⟨rfl, hb⟩; have n3_ := Aside0.mk (blk_below B3.out hb); have nn_ := Aside0.mk (blk_below BN.out hb); have nB_ := Aside0.mk (below_step HB.out hb); clear B3 BN HB hb hc0 hc1 hc2; have B3 := n3_; have BN := nn_; have HB := nB_; clear n3_ nn_ nB_; dsimp only; rw [hq8])
                    clear hq8
                    rw [Code.rounds]
                    have hc0 := (show _ = some (Value.string ⟨#[109, 109, 97, 112]⟩) from (blk_cell B3.out 27).trans (by kernel_rfl))
                    have hc1 := (show _ = some (Value.slice (some ⟨g 9, 0, none⟩) 3 3) from (blk_cell B3.out 28).trans (by kernel_rfl))
                    have hc2 := (show _ = some (Value.int .u64 40) from (blk_cell B3.out 29).trans (by kernel_rfl))
                    cases q9 : hooksIs9 n with
                    | true =>
                      have hq9 : ((⟨#[109, 109, 97, 112]⟩ : ByteArray).toList == n.toList && !n.toList.isEmpty) = true := q9
                      go_wp2_with (go_at_call 68; refine (hooks_eq_calls ⟨#[109, 109, 97, 112]⟩ n (.slice (some ⟨g 9, 0, none⟩) 3 3) 40 gn _ BN.out).mono ?_; rintro e wk ⟨rfl, hb⟩; have n3_ := Aside0.mk (blk_below B3.out hb); have nn_ := Aside0.mk (blk_below BN.out hb); have nB_ := Aside0.mk (below_step HB.out hb); clear B3 BN HB hb hc0 hc1 hc2; have B3 := n3_; have BN := nn_; have HB := nB_; clear n3_ nn_ nB_; dsimp only; rw [hq9])
                      go_ret
                      have hx : hooksIdx n = 9 := by unfold hooksIdx; rw [if_neg (by rw [q0]; decide), if_neg (by rw [q1]; decide), if_neg (by rw [q2]; decide), if_neg (by rw [q3]; decide), if_neg (by rw [q4]; decide), if_neg (by rw [q5]; decide), if_neg (by rw [q6]; decide), if_neg (by rw [q7]; decide), if_neg (by rw [q8]; decide), if_pos q9]
                      refine ⟨?_, HB.out⟩
                      rw [hx]
                      rfl
                    | false =>
                      have hq9 : ((⟨#[109, 109, 97, 112]⟩ : ByteArray).toList == n.toList && !n.toList.isEmpty) = false := q9
                      go_wp2_with (go_at_call 68; refine (hooks_eq_calls ⟨#[109, 109, 97, 112]⟩ n (.slice (some ⟨g 9, 0, none⟩) 3 3) 40 gn _ BN.out).mono ?_; rintro e wk ⟨rfl, hb⟩; have n3_ := Aside0.mk (blk_below B3.out hb); have nn_ := Aside0.mk (blk_below BN.out hb); have nB_ := Aside0.mk (below_step HB.out hb); clear B3 BN HB hb hc0 hc1 hc2; have B3 := n3_; have BN := nn_; have HB := nB_; clear n3_ nn_ nB_; dsimp only; rw [hq9])
                      clear hq9
                      rw [Code.rounds]
                      have hc0 := (show _ = some (Value.string ⟨#[109, 112, 114, 111, 116, 101, 99, 116]⟩) from (blk_cell B3.out 30).trans (by kernel_rfl))
                      have hc1 := (show _ = some (Value.slice (some ⟨g 10, 0, none⟩) 4 4) from (blk_cell B3.out 31).trans (by kernel_rfl))
                      have hc2 := (show _ = some (Value.int .u64 40) from (blk_cell B3.out 32).trans (by kernel_rfl))
                      cases q10 : hooksIs10 n with
                      | true =>
                        have hq10 : ((⟨#[109, 112, 114, 111, 116, 101, 99, 116]⟩ : ByteArray).toList == n.toList && !n.toList.isEmpty) = true := q10
                        go_wp2_with (go_at_call 68; refine (hooks_eq_calls ⟨#[109, 112, 114, 111, 116, 101, 99, 116]⟩ n (.slice (some ⟨g 10, 0, none⟩) 4 4) 40 gn _ BN.out).mono ?_; rintro e wk ⟨rfl, hb⟩; have n3_ := Aside0.mk (blk_below B3.out hb); have nn_ := Aside0.mk (blk_below BN.out hb); have nB_ := Aside0.mk (below_step HB.out hb); clear B3 BN HB hb hc0 hc1 hc2; have B3 := n3_; have BN := nn_; have HB := nB_; clear n3_ nn_ nB_; dsimp only; rw [hq10])
                        go_ret
                        have hx : hooksIdx n = 10 := by unfold hooksIdx; rw [if_neg (by rw [q0]; decide), if_neg (by rw [q1]; decide), if_neg (by rw [q2]; decide), if_neg (by rw [q3]; decide), if_neg (by rw [q4]; decide), if_neg (by rw [q5]; decide), if_neg (by rw [q6]; decide), if_neg (by rw [q7]; decide), if_neg (by rw [q8]; decide), if_neg (by rw [q9]; decide), if_pos q10]
                        refine ⟨?_, HB.out⟩
                        rw [hx]
                        rfl
                      | false =>
                        have hq10 : ((⟨#[109, 112, 114, 111, 116, 101, 99, 116]⟩ : ByteArray).toList == n.toList && !n.toList.isEmpty) = false := q10
                        go_wp2_with (go_at_call 68; refine (hooks_eq_calls ⟨#[109, 112, 114, 111, 116, 101, 99, 116]⟩ n (.slice (some ⟨g 10, 0, none⟩) 4 4) 40 gn _ BN.out).mono ?_; rintro e wk ⟨rfl, hb⟩; have n3_ := Aside0.mk (blk_below B3.out hb); have nn_ := Aside0.mk (blk_below BN.out hb); have nB_ := Aside0.mk (below_step HB.out hb); clear B3 BN HB hb hc0 hc1 hc2; have B3 := n3_; have BN := nn_; have HB := nB_; clear n3_ nn_ nB_; dsimp only; rw [hq10])
                        clear hq10
                        rw [Code.rounds]
                        have hc0 := (show _ = some (Value.string ⟨#[102, 111, 114, 107]⟩) from (blk_cell B3.out 33).trans (by kernel_rfl))
                        have hc1 := (show _ = some (Value.slice (some ⟨g 11, 0, none⟩) 2 2) from (blk_cell B3.out 34).trans (by kernel_rfl))
                        have hc2 := (show _ = some (Value.int .u64 12) from (blk_cell B3.out 35).trans (by kernel_rfl))
                        cases q11 : hooksIs11 n with
                        | true =>
                          have hq11 : ((⟨#[102, 111, 114, 107]⟩ : ByteArray).toList == n.toList && !n.toList.isEmpty) = true := q11
                          go_wp2_with (go_at_call 68; refine (hooks_eq_calls ⟨#[102, 111, 114, 107]⟩ n (.slice (some ⟨g 11, 0, none⟩) 2 2) 12 gn _ BN.out).mono ?_; rintro e wk ⟨rfl, hb⟩; have n3_ := Aside0.mk (blk_below B3.out hb); have nn_ := Aside0.mk (blk_below BN.out hb); have nB_ := Aside0.mk (below_step HB.out hb); clear B3 BN HB hb hc0 hc1 hc2; have B3 := n3_; have BN := nn_; have HB := nB_; clear n3_ nn_ nB_; dsimp only; rw [hq11])
                          go_ret
                          have hx : hooksIdx n = 11 := by unfold hooksIdx; rw [if_neg (by rw [q0]; decide), if_neg (by rw [q1]; decide), if_neg (by rw [q2]; decide), if_neg (by rw [q3]; decide), if_neg (by rw [q4]; decide), if_neg (by rw [q5]; decide), if_neg (by rw [q6]; decide), if_neg (by rw [q7]; decide), if_neg (by rw [q8]; decide), if_neg (by rw [q9]; decide), if_neg (by rw [q10]; decide), if_pos q11]
                          refine ⟨?_, HB.out⟩
                          rw [hx]
                          rfl
                        | false =>
                          have hq11 : ((⟨#[102, 111, 114, 107]⟩ : ByteArray).toList == n.toList && !n.toList.isEmpty) = false := q11
                          go_wp2_with (go_at_call 68; refine (hooks_eq_calls ⟨#[102, 111, 114, 107]⟩ n (.slice (some ⟨g 11, 0, none⟩) 2 2) 12 gn _ BN.out).mono ?_; rintro e wk ⟨rfl, hb⟩; have n3_ := Aside0.mk (blk_below B3.out hb); have nn_ := Aside0.mk (blk_below BN.out hb); have nB_ := Aside0.mk (below_step HB.out hb); clear B3 BN HB hb hc0 hc1 hc2; have B3 := n3_; have BN := nn_; have HB := nB_; clear n3_ nn_ nB_; dsimp only; rw [hq11])
                          clear hq11
                          rw [Code.rounds]
                          have hc0 := (show _ = some (Value.string ⟨#[107, 105, 108, 108]⟩) from (blk_cell B3.out 36).trans (by kernel_rfl))
                          have hc1 := (show _ = some (Value.slice (some ⟨g 12, 0, none⟩) 3 3) from (blk_cell B3.out 37).trans (by kernel_rfl))
                          have hc2 := (show _ = some (Value.int .u64 1) from (blk_cell B3.out 38).trans (by kernel_rfl))
                          cases q12 : hooksIs12 n with
                          | true =>
                            have hq12 : ((⟨#[107, 105, 108, 108]⟩ : ByteArray).toList == n.toList && !n.toList.isEmpty) = true := q12
                            go_wp2_with (go_at_call 68; refine (hooks_eq_calls ⟨#[107, 105, 108, 108]⟩ n (.slice (some ⟨g 12, 0, none⟩) 3 3) 1 gn _ BN.out).mono ?_; rintro e wk ⟨rfl, hb⟩; have n3_ := Aside0.mk (blk_below B3.out hb); have nn_ := Aside0.mk (blk_below BN.out hb); have nB_ := Aside0.mk (below_step HB.out hb); clear B3 BN HB hb hc0 hc1 hc2; have B3 := n3_; have BN := nn_; have HB := nB_; clear n3_ nn_ nB_; dsimp only; rw [hq12])
                            go_ret
                            have hx : hooksIdx n = 12 := by unfold hooksIdx; rw [if_neg (by rw [q0]; decide), if_neg (by rw [q1]; decide), if_neg (by rw [q2]; decide), if_neg (by rw [q3]; decide), if_neg (by rw [q4]; decide), if_neg (by rw [q5]; decide), if_neg (by rw [q6]; decide), if_neg (by rw [q7]; decide), if_neg (by rw [q8]; decide), if_neg (by rw [q9]; decide), if_neg (by rw [q10]; decide), if_neg (by rw [q11]; decide), if_pos q12]
                            refine ⟨?_, HB.out⟩
                            rw [hx]
                            rfl
                          | false =>
                            have hq12 : ((⟨#[107, 105, 108, 108]⟩ : ByteArray).toList == n.toList && !n.toList.isEmpty) = false := q12
                            go_wp2_with (go_at_call 68; refine (hooks_eq_calls ⟨#[107, 105, 108, 108]⟩ n (.slice (some ⟨g 12, 0, none⟩) 3 3) 1 gn _ BN.out).mono ?_; rintro e wk ⟨rfl, hb⟩; have n3_ := Aside0.mk (blk_below B3.out hb); have nn_ := Aside0.mk (blk_below BN.out hb); have nB_ := Aside0.mk (below_step HB.out hb); clear B3 BN HB hb hc0 hc1 hc2; have B3 := n3_; have BN := nn_; have HB := nB_; clear n3_ nn_ nB_; dsimp only; rw [hq12])
                            clear hq12
                            rw [Code.rounds]
                            have hc0 := (show _ = some (Value.string ⟨#[112, 116, 114, 97, 99, 101]⟩) from (blk_cell B3.out 39).trans (by kernel_rfl))
                            have hc1 := (show _ = some (Value.slice (some ⟨g 13, 0, none⟩) 3 3) from (blk_cell B3.out 40).trans (by kernel_rfl))
                            have hc2 := (show _ = some (Value.int .u64 1) from (blk_cell B3.out 41).trans (by kernel_rfl))
                            cases q13 : hooksIs13 n with
                            | true =>
                              have hq13 : ((⟨#[112, 116, 114, 97, 99, 101]⟩ : ByteArray).toList == n.toList && !n.toList.isEmpty) = true := q13
                              go_wp2_with (go_at_call 68; refine (hooks_eq_calls ⟨#[112, 116, 114, 97, 99, 101]⟩ n (.slice (some ⟨g 13, 0, none⟩) 3 3) 1 gn _ BN.out).mono ?_; rintro e wk ⟨rfl, hb⟩; have n3_ := Aside0.mk (blk_below B3.out hb); have nn_ := Aside0.mk (blk_below BN.out hb); have nB_ := Aside0.mk (below_step HB.out hb); clear B3 BN HB hb hc0 hc1 hc2; have B3 := n3_; have BN := nn_; have HB := nB_; clear n3_ nn_ nB_; dsimp only; rw [hq13])
                              go_ret
                              have hx : hooksIdx n = 13 := by unfold hooksIdx; rw [if_neg (by rw [q0]; decide), if_neg (by rw [q1]; decide), if_neg (by rw [q2]; decide), if_neg (by rw [q3]; decide), if_neg (by rw [q4]; decide), if_neg (by rw [q5]; decide), if_neg (by rw [q6]; decide), if_neg (by rw [q7]; decide), if_neg (by rw [q8]; decide), if_neg (by rw [q9]; decide), if_neg (by rw [q10]; decide), if_neg (by rw [q11]; decide), if_neg (by rw [q12]; decide), if_pos q13]
                              refine ⟨?_, HB.out⟩
                              rw [hx]
                              rfl
                            | false =>
                              have hq13 : ((⟨#[112, 116, 114, 97, 99, 101]⟩ : ByteArray).toList == n.toList && !n.toList.isEmpty) = false := q13
                              go_wp2_with (go_at_call 68; refine (hooks_eq_calls ⟨#[112, 116, 114, 97, 99, 101]⟩ n (.slice (some ⟨g 13, 0, none⟩) 3 3) 1 gn _ BN.out).mono ?_; rintro e wk ⟨rfl, hb⟩; have n3_ := Aside0.mk (blk_below B3.out hb); have nn_ := Aside0.mk (blk_below BN.out hb); have nB_ := Aside0.mk (below_step HB.out hb); clear B3 BN HB hb hc0 hc1 hc2; have B3 := n3_; have BN := nn_; have HB := nB_; clear n3_ nn_ nB_; dsimp only; rw [hq13])
                              clear hq13
                              rw [Code.rounds]
                              have hc0 := (show _ = some (Value.string ⟨#[115, 101, 116, 105, 100]⟩) from (blk_cell B3.out 42).trans (by kernel_rfl))
                              have hc1 := (show _ = some (Value.slice (some ⟨g 14, 0, none⟩) 3 3) from (blk_cell B3.out 43).trans (by kernel_rfl))
                              have hc2 := (show _ = some (Value.int .u64 1) from (blk_cell B3.out 44).trans (by kernel_rfl))
                              cases q14 : hooksIs14 n with
                              | true =>
                                have hq14 : ((⟨#[115, 101, 116, 105, 100]⟩ : ByteArray).toList == n.toList && !n.toList.isEmpty) = true := q14
                                go_wp2_with (go_at_call 68; refine (hooks_eq_calls ⟨#[115, 101, 116, 105, 100]⟩ n (.slice (some ⟨g 14, 0, none⟩) 3 3) 1 gn _ BN.out).mono ?_; rintro e wk ⟨rfl, hb⟩; have n3_ := Aside0.mk (blk_below B3.out hb); have nn_ := Aside0.mk (blk_below BN.out hb); have nB_ := Aside0.mk (below_step HB.out hb); clear B3 BN HB hb hc0 hc1 hc2; have B3 := n3_; have BN := nn_; have HB := nB_; clear n3_ nn_ nB_; dsimp only; rw [hq14])
                                go_ret
                                have hx : hooksIdx n = 14 := by unfold hooksIdx; rw [if_neg (by rw [q0]; decide), if_neg (by rw [q1]; decide), if_neg (by rw [q2]; decide), if_neg (by rw [q3]; decide), if_neg (by rw [q4]; decide), if_neg (by rw [q5]; decide), if_neg (by rw [q6]; decide), if_neg (by rw [q7]; decide), if_neg (by rw [q8]; decide), if_neg (by rw [q9]; decide), if_neg (by rw [q10]; decide), if_neg (by rw [q11]; decide), if_neg (by rw [q12]; decide), if_neg (by rw [q13]; decide), if_pos q14]
                                refine ⟨?_, HB.out⟩
                                rw [hx]
                                rfl
                              | false =>
                                have hq14 : ((⟨#[115, 101, 116, 105, 100]⟩ : ByteArray).toList == n.toList && !n.toList.isEmpty) = false := q14
                                go_wp2_with (go_at_call 68; refine (hooks_eq_calls ⟨#[115, 101, 116, 105, 100]⟩ n (.slice (some ⟨g 14, 0, none⟩) 3 3) 1 gn _ BN.out).mono ?_; rintro e wk ⟨rfl, hb⟩; have n3_ := Aside0.mk (blk_below B3.out hb); have nn_ := Aside0.mk (blk_below BN.out hb); have nB_ := Aside0.mk (below_step HB.out hb); clear B3 BN HB hb hc0 hc1 hc2; have B3 := n3_; have BN := nn_; have HB := nB_; clear n3_ nn_ nB_; dsimp only; rw [hq14])
                                clear hq14
                                rw [Code.rounds]
                                have hc0 := (show _ = some (Value.string ⟨#[99, 104, 100, 105, 114]⟩) from (blk_cell B3.out 45).trans (by kernel_rfl))
                                have hc1 := (show _ = some (Value.slice (some ⟨g 15, 0, none⟩) 2 2) from (blk_cell B3.out 46).trans (by kernel_rfl))
                                have hc2 := (show _ = some (Value.int .u64 40) from (blk_cell B3.out 47).trans (by kernel_rfl))
                                cases q15 : hooksIs15 n with
                                | true =>
                                  have hq15 : ((⟨#[99, 104, 100, 105, 114]⟩ : ByteArray).toList == n.toList && !n.toList.isEmpty) = true := q15
                                  go_wp2_with (go_at_call 68; refine (hooks_eq_calls ⟨#[99, 104, 100, 105, 114]⟩ n (.slice (some ⟨g 15, 0, none⟩) 2 2) 40 gn _ BN.out).mono ?_; rintro e wk ⟨rfl, hb⟩; have n3_ := Aside0.mk (blk_below B3.out hb); have nn_ := Aside0.mk (blk_below BN.out hb); have nB_ := Aside0.mk (below_step HB.out hb); clear B3 BN HB hb hc0 hc1 hc2; have B3 := n3_; have BN := nn_; have HB := nB_; clear n3_ nn_ nB_; dsimp only; rw [hq15])
                                  go_ret
                                  have hx : hooksIdx n = 15 := by unfold hooksIdx; rw [if_neg (by rw [q0]; decide), if_neg (by rw [q1]; decide), if_neg (by rw [q2]; decide), if_neg (by rw [q3]; decide), if_neg (by rw [q4]; decide), if_neg (by rw [q5]; decide), if_neg (by rw [q6]; decide), if_neg (by rw [q7]; decide), if_neg (by rw [q8]; decide), if_neg (by rw [q9]; decide), if_neg (by rw [q10]; decide), if_neg (by rw [q11]; decide), if_neg (by rw [q12]; decide), if_neg (by rw [q13]; decide), if_neg (by rw [q14]; decide), if_pos q15]
                                  refine ⟨?_, HB.out⟩
                                  rw [hx]
                                  rfl
                                | false =>
                                  have hq15 : ((⟨#[99, 104, 100, 105, 114]⟩ : ByteArray).toList == n.toList && !n.toList.isEmpty) = false := q15
                                  go_wp2_with (go_at_call 68; refine (hooks_eq_calls ⟨#[99, 104, 100, 105, 114]⟩ n (.slice (some ⟨g 15, 0, none⟩) 2 2) 40 gn _ BN.out).mono ?_; rintro e wk ⟨rfl, hb⟩; have n3_ := Aside0.mk (blk_below B3.out hb); have nn_ := Aside0.mk (blk_below BN.out hb); have nB_ := Aside0.mk (below_step HB.out hb); clear B3 BN HB hb hc0 hc1 hc2; have B3 := n3_; have BN := nn_; have HB := nB_; clear n3_ nn_ nB_; dsimp only; rw [hq15])
                                  clear hq15
                                  rw [Code.rounds]
                                  have hc0 := (show _ = some (Value.string ⟨#[103, 101, 116, 97, 116, 116, 114]⟩) from (blk_cell B3.out 48).trans (by kernel_rfl))
                                  have hc1 := (show _ = some (Value.slice (some ⟨g 16, 0, none⟩) 3 3) from (blk_cell B3.out 49).trans (by kernel_rfl))
                                  have hc2 := (show _ = some (Value.int .u64 40) from (blk_cell B3.out 50).trans (by kernel_rfl))
                                  cases q16 : hooksIs16 n with
                                  | true =>
                                    have hq16 : ((⟨#[103, 101, 116, 97, 116, 116, 114]⟩ : ByteArray).toList == n.toList && !n.toList.isEmpty) = true := q16
                                    go_wp2_with (go_at_call 68; refine (hooks_eq_calls ⟨#[103, 101, 116, 97, 116, 116, 114]⟩ n (.slice (some ⟨g 16, 0, none⟩) 3 3) 40 gn _ BN.out).mono ?_; rintro e wk ⟨rfl, hb⟩; have n3_ := Aside0.mk (blk_below B3.out hb); have nn_ := Aside0.mk (blk_below BN.out hb); have nB_ := Aside0.mk (below_step HB.out hb); clear B3 BN HB hb hc0 hc1 hc2; have B3 := n3_; have BN := nn_; have HB := nB_; clear n3_ nn_ nB_; dsimp only; rw [hq16])
                                    go_ret
                                    have hx : hooksIdx n = 16 := by unfold hooksIdx; rw [if_neg (by rw [q0]; decide), if_neg (by rw [q1]; decide), if_neg (by rw [q2]; decide), if_neg (by rw [q3]; decide), if_neg (by rw [q4]; decide), if_neg (by rw [q5]; decide), if_neg (by rw [q6]; decide), if_neg (by rw [q7]; decide), if_neg (by rw [q8]; decide), if_neg (by rw [q9]; decide), if_neg (by rw [q10]; decide), if_neg (by rw [q11]; decide), if_neg (by rw [q12]; decide), if_neg (by rw [q13]; decide), if_neg (by rw [q14]; decide), if_neg (by rw [q15]; decide), if_pos q16]
                                    refine ⟨?_, HB.out⟩
                                    rw [hx]
                                    rfl
                                  | false =>
                                    have hq16 : ((⟨#[103, 101, 116, 97, 116, 116, 114]⟩ : ByteArray).toList == n.toList && !n.toList.isEmpty) = false := q16
                                    go_wp2_with (go_at_call 68; refine (hooks_eq_calls ⟨#[103, 101, 116, 97, 116, 116, 114]⟩ n (.slice (some ⟨g 16, 0, none⟩) 3 3) 40 gn _ BN.out).mono ?_; rintro e wk ⟨rfl, hb⟩; have n3_ := Aside0.mk (blk_below B3.out hb); have nn_ := Aside0.mk (blk_below BN.out hb); have nB_ := Aside0.mk (below_step HB.out hb); clear B3 BN HB hb hc0 hc1 hc2; have B3 := n3_; have BN := nn_; have HB := nB_; clear n3_ nn_ nB_; dsimp only; rw [hq16])
                                    clear hq16
                                    rw [Code.rounds]
                                    go_wp2
                                    go_ret
                                    have hx : hooksIdx n = -1 := by unfold hooksIdx; rw [if_neg (by rw [q0]; decide), if_neg (by rw [q1]; decide), if_neg (by rw [q2]; decide), if_neg (by rw [q3]; decide), if_neg (by rw [q4]; decide), if_neg (by rw [q5]; decide), if_neg (by rw [q6]; decide), if_neg (by rw [q7]; decide), if_neg (by rw [q8]; decide), if_neg (by rw [q9]; decide), if_neg (by rw [q10]; decide), if_neg (by rw [q11]; decide), if_neg (by rw [q12]; decide), if_neg (by rw [q13]; decide), if_neg (by rw [q14]; decide), if_neg (by rw [q15]; decide), if_neg (by rw [q16]; decide)]
                                    refine ⟨?_, HB.out⟩
                                    rw [hx]
                                    rfl
set_option maxHeartbeats 8000000 in
set_option maxRecDepth 100000 in
theorem hooks_By.calls (a0 : ByteArray) (r : Int) (w : World) (h : hooks_By.f a0 = some r) : Calls Try.prog 37 #[.string a0] w fun e w' => e = .returned (.int .i64 r) ∧ Below w.heap.size w w' := by
  unfold hooks_By.f at h
  obtain rfl := Option.some.inj h
  clear h
  have hu96 := Try.underlying96
  have HB := Aside0.mk (Below.refl w.heap.size w)
  go_enter Try.func37, Try.ntmps37
  go_wp2_with (first | ((with_reducible refine gate_dst (N := 1) rfl ?_); refine box_event ?hg (N := 1) ?hd (cs := #[.string a0]) (t := 9) ?hr ?_; (case hd => rfl); (case hg => rfl); (case hr => first | (go_simp; done) | (go_simp; rfl)); intro g1 hg wa hx hb; have B1 := Aside0.mk hx; have nB_ := Aside0.mk (below_step HB.out hb); clear HB hb hx hg; have HB := nB_; clear nB_) | ((with_reducible refine gate_callee (f := 66) rfl ?_); refine goesL_ (some 4) rfl rfl Try.func66 (by kernel_rfl) rfl #[] rfl (by (try simp only [List.map_toArray, List.map_cons, List.map_nil]); first | done | rfl) ?_; (with_reducible refine (hooks_table_calls _).mono ?_); rintro e wb ⟨g, rfl, hI, hb⟩; refine ⟨_, rfl, ?_⟩; have n1_ := Aside0.mk (blk_below B1.out hb); have nB_ := Aside0.mk (below_step HB.out hb); clear B1 HB hb hI; have B1 := n1_; have HB := nB_; clear n1_ nB_) | ((with_reducible refine gate_dst (N := 3) rfl ?_); refine box_event ?hg (N := 3) ?hd (cs := #[.string ⟨#[]⟩, .slice none 0 0, .int .u64 0, .string ⟨#[]⟩, .slice none 0 0, .int .u64 0, .string ⟨#[]⟩, .slice none 0 0, .int .u64 0, .string ⟨#[]⟩, .slice none 0 0, .int .u64 0, .string ⟨#[]⟩, .slice none 0 0, .int .u64 0, .string ⟨#[]⟩, .slice none 0 0, .int .u64 0, .string ⟨#[]⟩, .slice none 0 0, .int .u64 0, .string ⟨#[]⟩, .slice none 0 0, .int .u64 0, .string ⟨#[]⟩, .slice none 0 0, .int .u64 0, .string ⟨#[]⟩, .slice none 0 0, .int .u64 0, .string ⟨#[]⟩, .slice none 0 0, .int .u64 0, .string ⟨#[]⟩, .slice none 0 0, .int .u64 0, .string ⟨#[]⟩, .slice none 0 0, .int .u64 0, .string ⟨#[]⟩, .slice none 0 0, .int .u64 0, .string ⟨#[]⟩, .slice none 0 0, .int .u64 0, .string ⟨#[]⟩, .slice none 0 0, .int .u64 0, .string ⟨#[]⟩, .slice none 0 0, .int .u64 0]) (t := 96) ?hr ?_; (case hd => rfl); (case hg => rfl); (case hr => kernel_rfl); intro g3 hg wc hx hb; have GE3 : Aside0 (w.heap.size ≤ g3 ∧ g1 ≠ g3) := ⟨by have := HB.out.size; have := blk_lt B1.out; omega⟩; have B3 := Aside0.mk hx; have n1_ := Aside0.mk (blk_below B1.out hb); have nB_ := Aside0.mk (below_step HB.out hb); clear B1 HB hb hx hg; have B1 := n1_; have HB := nB_; clear n1_ nB_) | (refine wstore_event rfl (ty := 96) (x := .tmp 3) (y := .tmp 4) rfl (cs := hooksCells g) rfl rfl B3.out (hooks_s1 _) (hooks_s2 _) (hooks_s3 _) ?_; intro wd hx hb ho; have n1_ := Aside0.mk ((ho g1 GE3.out.2).trans B1.out); have nB_ := Aside0.mk (HB.out.trans (hb w.heap.size GE3.out.1)); clear B3 B1 HB hb ho; have B3 := Aside0.mk hx; have B1 := n1_; have HB := nB_; clear n1_ nB_ hx) | ((with_reducible refine gate_callee (f := 67) rfl ?_); refine goesL_ (some 7) rfl rfl Try.func67 (by kernel_rfl) rfl #[.slice (some ⟨g3, 0, none⟩) 17 17, .func (.func 68) #[] #[.pointer (some ⟨g1, 0, none⟩)]] rfl (by (try simp only [List.map_toArray, List.map_cons, List.map_nil]); first | done | rfl) ?_; (with_reducible refine (hooks_index_calls a0 g3 g1 g _ B3.out B1.out).mono ?_); rintro e we ⟨rfl, hb⟩; refine ⟨_, rfl, ?_⟩; have nB_ := Aside0.mk (below_step HB.out hb); clear B3 B1 HB hb; have HB := nB_; clear nB_))
  all_goals (go_ret; refine ⟨?_, HB.out⟩; first | rfl | (have e : mx (hooksIdx a0) 0 = 0 := (by unfold mx; split <;> omega); rw [e]; rfl) | (have e : mx (hooksIdx a0) 0 = hooksIdx a0 := (by unfold mx; split <;> omega); rw [e]; rfl))


/-! ### slices_Index_string_string: function 69 -/
def slices_Index_string_string.l0 : Nat → List ByteArray → ByteArray → Int → Int → Option (Int)
  | 0, _, _, _, _ => none
  | k + 1, x0, x1, x7, x8 => if x8 < x7 then (if 0 ≤ x8 then (if x8 < (x0.length : Int) then (if x1.toList = (rdOf ByteArray.empty x0 x8).toList then (some x8) else (slices_Index_string_string.l0 k x0 x1 x7 (wrap64 (x8 + 1)))) else (none)) else (none)) else (some (-1))
def slices_Index_string_string.f (k : Nat) (l0 : List ByteArray) (a1 : ByteArray) : Option (Int) := slices_Index_string_string.l0 k l0 a1 (l0.length : Int) 0
theorem slices_Index_string_string.mono_l : ∀ k, (∀ y0 y1 y2 y3, LeO (slices_Index_string_string.l0 k y0 y1 y2 y3) (slices_Index_string_string.l0 (k + 1) y0 y1 y2 y3))
  | 0 => fun _ _ _ _ r h => by simp [slices_Index_string_string.l0] at h
  | k + 1 => by
    have ih0 := slices_Index_string_string.mono_l k
    · intro y0 y1 y2 y3
      unfold slices_Index_string_string.l0
      repeat' first
      | (with_reducible exact ih0 _ _ _ _)
      | (with_reducible exact LeO.refl _)
      | (with_reducible exact LeO.none _)
      | (with_reducible refine LeO.ite ?_ ?_)
      | (with_reducible refine LeO.bind ?_ (fun _ => ?_))
      | exact ih0 _ _ _ _
      | exact LeO.none _
      | refine LeO.ite ?_ ?_
      | refine LeO.bind ?_ (fun _ => ?_)
theorem slices_Index_string_string.mono : ∀ a0 a1 k, LeO (slices_Index_string_string.f k a0 a1) (slices_Index_string_string.f (k + 1) a0 a1) := by
  intro a0 a1 k
  have ih0 := slices_Index_string_string.mono_l k
  unfold slices_Index_string_string.f
  repeat' first
      | (with_reducible exact ih0 _ _ _ _)
      | (with_reducible exact LeO.refl _)
      | (with_reducible exact LeO.none _)
      | (with_reducible refine LeO.ite ?_ ?_)
      | (with_reducible refine LeO.bind ?_ (fun _ => ?_))
      | exact ih0 _ _ _ _
      | exact LeO.none _
      | refine LeO.ite ?_ ?_
      | refine LeO.bind ?_ (fun _ => ?_)
set_option maxHeartbeats 8000000 in
set_option maxRecDepth 100000 in
theorem slices_Index_string_string.calls (k : Nat) (A0 : Option Addr) (c0 : Nat) (l0 : List ByteArray) (a1 : ByteArray) (r : Int) (w : World) (hr0 : Kd.C Kd.string w A0 l0.length l0) (hc0 : l0.length ≤ c0) (h : slices_Index_string_string.f k l0 a1 = some r) :
    Calls Try.prog 69 #[.slice A0 l0.length c0, .string a1] w fun e w' => e = .returned (.int .i64 r) ∧ Drawn0 w w' := by
  have HR0 := Aside0.mk hr0
  have HC0 := Aside0.mk hc0
  clear hr0 hc0
  have H : (slices_Index_string_string.l0 k l0 a1 (l0.length : Int) 0) = some r := h
  clear h
  have H' := Aside0.mk H
  clear H
  go_enter Try.func69, Try.ntmps69
  go_wp2
  go_loopg [8] k (fun kq v8 w' => ∃ (x8_1 : Int), v8 = .int .i64 x8_1 ∧ Aside0 (slices_Index_string_string.l0 kq l0 a1 (l0.length : Int) x8_1 = some r) ∧ Aside0 (kq ≤ k) ∧ Drawn0 w w')
  case atStart => exact ⟨(0), (by first | rfl | (simp; done) | (simp [*]; done)), H', ⟨Nat.le_refl _⟩, by repeat (first | exact Drawn0.refl _ | apply Drawn0.step)⟩
  case round =>
    clear H'
    try clear p2
    obtain ⟨x8_1, rfl, HA, HK1, ⟨m1, rfl⟩⟩ := hrel
    cases gk with
    | zero => exact absurd HA.out (by simp [slices_Index_string_string.l0])
    | succ k1 =>
      have H := HA.out
      clear HA
      simp only [slices_Index_string_string.l0] at H
      by_cases c3 : x8_1 < (l0.length : Int)
      · rw [if_pos c3] at H
        have c3b0 : decide (x8_1 < (l0.length : Int)) = true := decide_eq_true c3
        clear c3
        by_cases c4 : 0 ≤ x8_1
        · rw [if_pos c4] at H
          have c4b0 : decide (0 ≤ x8_1) = true := decide_eq_true c4
          clear c4
          by_cases c5 : x8_1 < (l0.length : Int)
          · rw [if_pos c5] at H
            have c5b0 : decide (x8_1 < (l0.length : Int)) = true := decide_eq_true c5
            clear c5
            by_cases c6 : a1.toList = (rdOf ByteArray.empty l0 x8_1).toList
            · rw [if_pos c6] at H
              have c6b0 : (a1.toList == (rdOf ByteArray.empty l0 x8_1).toList) = true := beq_iff_eq.mpr c6
              have c6b1 : (a1.toList != (rdOf ByteArray.empty l0 x8_1).toList) = false := bne_eq_false_iff_eq.mpr c6
              clear c6
              obtain rfl := Option.some.inj H
              have p101 : 0 ≤ (x8_1 : Int) := of_decide_eq_true (by first | (with_reducible assumption) | assumption)
              have q101 : x8_1 < (l0.length : Int) := of_decide_eq_true (by first | (with_reducible assumption) | assumption)
              obtain ⟨ad101, e101, hx101_0⟩ := Kd.at_string HR0.out x8_1 p101 q101
              cases e101
              replace p101 := eq_true p101
              replace q101 := eq_true q101
              go_wp2
              go_ret
              exact ⟨by first | rfl | (simp; done) | (simp [*]; done), by repeat (first | exact Drawn0.refl _ | apply Drawn0.step)⟩
            · rw [if_neg c6] at H
              have c6b0 : (a1.toList == (rdOf ByteArray.empty l0 x8_1).toList) = false := beq_eq_false_iff_ne.mpr c6
              have c6b1 : (a1.toList != (rdOf ByteArray.empty l0 x8_1).toList) = true := bne_iff_ne.mpr c6
              have H' := Aside0.mk H
              clear H
              have p101 : 0 ≤ (x8_1 : Int) := of_decide_eq_true (by first | (with_reducible assumption) | assumption)
              have q101 : x8_1 < (l0.length : Int) := of_decide_eq_true (by first | (with_reducible assumption) | assumption)
              obtain ⟨ad101, e101, hx101_0⟩ := Kd.at_string HR0.out x8_1 p101 q101
              cases e101
              replace p101 := eq_true p101
              replace q101 := eq_true q101
              go_wp2
              go_roundg k1
              case measure => have := HK1.out; omega
              case rel => exact ⟨(wrap64 (x8_1 + 1)), (by first | rfl | (simp; done) | (simp [*]; done)), H', ⟨by have := HK1.out; omega⟩, by repeat (first | exact Drawn0.refl _ | apply Drawn0.step)⟩
          · rw [if_neg c5] at H
            exact absurd H (by simp)
        · rw [if_neg c4] at H
          exact absurd H (by simp)
      · rw [if_neg c3] at H
        have c3b0 : decide (x8_1 < (l0.length : Int)) = false := decide_eq_false c3
        clear c3
        obtain rfl := Option.some.inj H
        go_wp2
        go_ret
        exact ⟨by first | rfl | (simp; done) | (simp [*]; done), by repeat (first | exact Drawn0.refl _ | apply Drawn0.step)⟩

/-! ### hooks_fields: function 70 -/
def hooks_fields.f (a0 : Int) : Option (List ByteArray) := if a0 = 1 then (some (([(⟨#[112, 105, 100]⟩ : ByteArray), (⟨#[112, 112, 105, 100]⟩ : ByteArray), (⟨#[117, 105, 100]⟩ : ByteArray), (⟨#[103, 105, 100]⟩ : ByteArray), (⟨#[101, 120, 101]⟩ : ByteArray), (⟨#[103, 101, 110]⟩ : ByteArray), (⟨#[116, 114, 97, 99, 101, 114]⟩ : ByteArray), (⟨#[102, 105, 108, 101, 115]⟩ : ByteArray)] : List ByteArray))) else (if a0 = 2 then (some (([(⟨#[105, 110, 111]⟩ : ByteArray), (⟨#[107, 105, 110, 100]⟩ : ByteArray), (⟨#[109, 111, 100, 101]⟩ : ByteArray), (⟨#[117, 105, 100]⟩ : ByteArray), (⟨#[103, 105, 100]⟩ : ByteArray), (⟨#[108, 105, 110, 107, 115]⟩ : ByteArray), (⟨#[115, 105, 122, 101]⟩ : ByteArray), (⟨#[103, 101, 110]⟩ : ByteArray)] : List ByteArray))) else (some ([] : List ByteArray)))
set_option maxHeartbeats 8000000 in
set_option maxRecDepth 100000 in
theorem hooks_fields.calls (a0 : Int) (r : List ByteArray) (w : World) (h : hooks_fields.f a0 = some r) :
    Calls Try.prog 70 #[.int .i64 a0] w fun e w' => ∃ v0_ : Value, e = .returned (v0_) ∧ Kd.R Kd.string 9 w' w.heap.size (fun _ => True) v0_ r ∧ Below w.heap.size w w' := by
  have HB := Aside0.mk (Below.refl w.heap.size w)
  have H : (if a0 = 1 then (some (([(⟨#[112, 105, 100]⟩ : ByteArray), (⟨#[112, 112, 105, 100]⟩ : ByteArray), (⟨#[117, 105, 100]⟩ : ByteArray), (⟨#[103, 105, 100]⟩ : ByteArray), (⟨#[101, 120, 101]⟩ : ByteArray), (⟨#[103, 101, 110]⟩ : ByteArray), (⟨#[116, 114, 97, 99, 101, 114]⟩ : ByteArray), (⟨#[102, 105, 108, 101, 115]⟩ : ByteArray)] : List ByteArray))) else (if a0 = 2 then (some (([(⟨#[105, 110, 111]⟩ : ByteArray), (⟨#[107, 105, 110, 100]⟩ : ByteArray), (⟨#[109, 111, 100, 101]⟩ : ByteArray), (⟨#[117, 105, 100]⟩ : ByteArray), (⟨#[103, 105, 100]⟩ : ByteArray), (⟨#[108, 105, 110, 107, 115]⟩ : ByteArray), (⟨#[115, 105, 122, 101]⟩ : ByteArray), (⟨#[103, 101, 110]⟩ : ByteArray)] : List ByteArray))) else (some ([] : List ByteArray)))) = some r := h
  clear h
  by_cases c2 : a0 = 1
  · rw [if_pos c2] at H
    have c2b0 : (a0 == 1) = true := beq_iff_eq.mpr c2
    have c2b1 : (a0 != 1) = false := bne_eq_false_iff_eq.mpr c2
    clear c2
    obtain ⟨y102, hy102⟩ : ∃ y_ : List ByteArray, y_ = (([(⟨#[112, 105, 100]⟩ : ByteArray), (⟨#[112, 112, 105, 100]⟩ : ByteArray), (⟨#[117, 105, 100]⟩ : ByteArray), (⟨#[103, 105, 100]⟩ : ByteArray), (⟨#[101, 120, 101]⟩ : ByteArray), (⟨#[103, 101, 110]⟩ : ByteArray), (⟨#[116, 114, 97, 99, 101, 114]⟩ : ByteArray), (⟨#[102, 105, 108, 101, 115]⟩ : ByteArray)] : List ByteArray)) := ⟨_, rfl⟩
    replace H : (some y102) = some r := by first | (rw [hy102]; with_reducible exact H) | (have H2_ := (Option.bind_some _ _).symm.trans H; rw [hy102]; with_reducible exact H2_) | (have H2_ := (Option.bind_some _ _).symm.trans H; with_reducible exact H2_) | with_reducible exact H | (rw [hy102]; exact H) | exact H
    have Ny102 := Aside0.mk hy102
    clear hy102
    obtain rfl := Option.some.inj H
    go_enter Try.func70, Try.ntmps70
    go_wp2_with (first | ((with_reducible refine gate_dst (N := 6) rfl ?_); refine Kd.R_lit Kd.string _ 9 ?hg (N := 6) ?hd (xs := ([(⟨#[112, 105, 100]⟩ : ByteArray), (⟨#[112, 112, 105, 100]⟩ : ByteArray), (⟨#[117, 105, 100]⟩ : ByteArray), (⟨#[103, 105, 100]⟩ : ByteArray), (⟨#[101, 120, 101]⟩ : ByteArray), (⟨#[103, 101, 110]⟩ : ByteArray), (⟨#[116, 114, 97, 99, 101, 114]⟩ : ByteArray), (⟨#[102, 105, 108, 101, 115]⟩ : ByteArray)] : List ByteArray)) (inner := [.string (⟨#[112, 105, 100]⟩ : ByteArray), .string (⟨#[112, 112, 105, 100]⟩ : ByteArray), .string (⟨#[117, 105, 100]⟩ : ByteArray), .string (⟨#[103, 105, 100]⟩ : ByteArray), .string (⟨#[101, 120, 101]⟩ : ByteArray), .string (⟨#[103, 101, 110]⟩ : ByteArray), .string (⟨#[116, 114, 97, 99, 101, 114]⟩ : ByteArray), .string (⟨#[102, 105, 108, 101, 115]⟩ : ByteArray)]) (ok := fun _ => True) (okp := fun _ => True) ?hr ?hp (fun _ hk => hk) trivial (Below.refl _ _) (Nat.le_refl _) (by simp) ?_; (case hd => rfl); (case hg => rfl); (case hr => first | (go_simp; done) | (go_simp; rfl)); (case hp => exact (Reps.one (show Kd.M Kd.string _ _ _ (⟨#[112, 105, 100]⟩ : ByteArray) [.string (⟨#[112, 105, 100]⟩ : ByteArray)] from rfl) (Reps.one (show Kd.M Kd.string _ _ _ (⟨#[112, 112, 105, 100]⟩ : ByteArray) [.string (⟨#[112, 112, 105, 100]⟩ : ByteArray)] from rfl) (Reps.one (show Kd.M Kd.string _ _ _ (⟨#[117, 105, 100]⟩ : ByteArray) [.string (⟨#[117, 105, 100]⟩ : ByteArray)] from rfl) (Reps.one (show Kd.M Kd.string _ _ _ (⟨#[103, 105, 100]⟩ : ByteArray) [.string (⟨#[103, 105, 100]⟩ : ByteArray)] from rfl) (Reps.one (show Kd.M Kd.string _ _ _ (⟨#[101, 120, 101]⟩ : ByteArray) [.string (⟨#[101, 120, 101]⟩ : ByteArray)] from rfl) (Reps.one (show Kd.M Kd.string _ _ _ (⟨#[103, 101, 110]⟩ : ByteArray) [.string (⟨#[103, 101, 110]⟩ : ByteArray)] from rfl) (Reps.one (show Kd.M Kd.string _ _ _ (⟨#[116, 114, 97, 99, 101, 114]⟩ : ByteArray) [.string (⟨#[116, 114, 97, 99, 101, 114]⟩ : ByteArray)] from rfl) (Reps.one (show Kd.M Kd.string _ _ _ (⟨#[102, 105, 108, 101, 115]⟩ : ByteArray) [.string (⟨#[102, 105, 108, 101, 115]⟩ : ByteArray)] from rfl) (Reps.none _ _)))))))))); intro v103 w3 ho4 hb hg_ hnew_; clear hg_ hnew_; (first | rw [← Ny102.out] at ho4 | (simp only [Int.reduceToNat] at ho4; rw [← Ny102.out] at ho4)); have n0_ := Aside0.mk (Kd.R_lower ho4 (below_size (by repeat (first | (with_reducible first | exact HB.out | apply below_alloc | apply pw_below_drewN | apply below_drew1) | exact HB.out)))); have n1_ := Aside0.mk (below_step (by repeat (first | (with_reducible first | exact HB.out | apply below_alloc | apply pw_below_drewN | apply below_drew1) | exact HB.out)) hb); clear HB; have HO104 := n0_; have HB := n1_; clear n0_ n1_; clear hb ho4))
    go_ret
    exact ⟨_, by first | rfl | (simp [errW_none, errW_some] <;> rfl) | (simp [*, errW_none, errW_some] <;> rfl), by (with_reducible repeat (first | apply Kd.R_alloc | apply Kd.R_drewN | apply Kd.R_drew)); exact HO104.out, by repeat (first | (with_reducible first | exact HB.out | apply below_alloc | apply pw_below_drewN | apply below_drew1) | exact HB.out)⟩
  · rw [if_neg c2] at H
    have c2b0 : (a0 == 1) = false := beq_eq_false_iff_ne.mpr c2
    have c2b1 : (a0 != 1) = true := bne_iff_ne.mpr c2
    by_cases c5 : a0 = 2
    · rw [if_pos c5] at H
      have c5b0 : (a0 == 2) = true := beq_iff_eq.mpr c5
      have c5b1 : (a0 != 2) = false := bne_eq_false_iff_eq.mpr c5
      clear c5
      obtain ⟨y105, hy105⟩ : ∃ y_ : List ByteArray, y_ = (([(⟨#[105, 110, 111]⟩ : ByteArray), (⟨#[107, 105, 110, 100]⟩ : ByteArray), (⟨#[109, 111, 100, 101]⟩ : ByteArray), (⟨#[117, 105, 100]⟩ : ByteArray), (⟨#[103, 105, 100]⟩ : ByteArray), (⟨#[108, 105, 110, 107, 115]⟩ : ByteArray), (⟨#[115, 105, 122, 101]⟩ : ByteArray), (⟨#[103, 101, 110]⟩ : ByteArray)] : List ByteArray)) := ⟨_, rfl⟩
      replace H : (some y105) = some r := by first | (rw [hy105]; with_reducible exact H) | (have H2_ := (Option.bind_some _ _).symm.trans H; rw [hy105]; with_reducible exact H2_) | (have H2_ := (Option.bind_some _ _).symm.trans H; with_reducible exact H2_) | with_reducible exact H | (rw [hy105]; exact H) | exact H
      have Ny105 := Aside0.mk hy105
      clear hy105
      obtain rfl := Option.some.inj H
      go_enter Try.func70, Try.ntmps70
      go_wp2_with (first | ((with_reducible refine gate_dst (N := 9) rfl ?_); refine Kd.R_lit Kd.string _ 9 ?hg (N := 9) ?hd (xs := ([(⟨#[105, 110, 111]⟩ : ByteArray), (⟨#[107, 105, 110, 100]⟩ : ByteArray), (⟨#[109, 111, 100, 101]⟩ : ByteArray), (⟨#[117, 105, 100]⟩ : ByteArray), (⟨#[103, 105, 100]⟩ : ByteArray), (⟨#[108, 105, 110, 107, 115]⟩ : ByteArray), (⟨#[115, 105, 122, 101]⟩ : ByteArray), (⟨#[103, 101, 110]⟩ : ByteArray)] : List ByteArray)) (inner := [.string (⟨#[105, 110, 111]⟩ : ByteArray), .string (⟨#[107, 105, 110, 100]⟩ : ByteArray), .string (⟨#[109, 111, 100, 101]⟩ : ByteArray), .string (⟨#[117, 105, 100]⟩ : ByteArray), .string (⟨#[103, 105, 100]⟩ : ByteArray), .string (⟨#[108, 105, 110, 107, 115]⟩ : ByteArray), .string (⟨#[115, 105, 122, 101]⟩ : ByteArray), .string (⟨#[103, 101, 110]⟩ : ByteArray)]) (ok := fun _ => True) (okp := fun _ => True) ?hr ?hp (fun _ hk => hk) trivial (Below.refl _ _) (Nat.le_refl _) (by simp) ?_; (case hd => rfl); (case hg => rfl); (case hr => first | (go_simp; done) | (go_simp; rfl)); (case hp => exact (Reps.one (show Kd.M Kd.string _ _ _ (⟨#[105, 110, 111]⟩ : ByteArray) [.string (⟨#[105, 110, 111]⟩ : ByteArray)] from rfl) (Reps.one (show Kd.M Kd.string _ _ _ (⟨#[107, 105, 110, 100]⟩ : ByteArray) [.string (⟨#[107, 105, 110, 100]⟩ : ByteArray)] from rfl) (Reps.one (show Kd.M Kd.string _ _ _ (⟨#[109, 111, 100, 101]⟩ : ByteArray) [.string (⟨#[109, 111, 100, 101]⟩ : ByteArray)] from rfl) (Reps.one (show Kd.M Kd.string _ _ _ (⟨#[117, 105, 100]⟩ : ByteArray) [.string (⟨#[117, 105, 100]⟩ : ByteArray)] from rfl) (Reps.one (show Kd.M Kd.string _ _ _ (⟨#[103, 105, 100]⟩ : ByteArray) [.string (⟨#[103, 105, 100]⟩ : ByteArray)] from rfl) (Reps.one (show Kd.M Kd.string _ _ _ (⟨#[108, 105, 110, 107, 115]⟩ : ByteArray) [.string (⟨#[108, 105, 110, 107, 115]⟩ : ByteArray)] from rfl) (Reps.one (show Kd.M Kd.string _ _ _ (⟨#[115, 105, 122, 101]⟩ : ByteArray) [.string (⟨#[115, 105, 122, 101]⟩ : ByteArray)] from rfl) (Reps.one (show Kd.M Kd.string _ _ _ (⟨#[103, 101, 110]⟩ : ByteArray) [.string (⟨#[103, 101, 110]⟩ : ByteArray)] from rfl) (Reps.none _ _)))))))))); intro v106 w6 ho7 hb hg_ hnew_; clear hg_ hnew_; (first | rw [← Ny105.out] at ho7 | (simp only [Int.reduceToNat] at ho7; rw [← Ny105.out] at ho7)); have n0_ := Aside0.mk (Kd.R_lower ho7 (below_size (by repeat (first | (with_reducible first | exact HB.out | apply below_alloc | apply pw_below_drewN | apply below_drew1) | exact HB.out)))); have n1_ := Aside0.mk (below_step (by repeat (first | (with_reducible first | exact HB.out | apply below_alloc | apply pw_below_drewN | apply below_drew1) | exact HB.out)) hb); clear HB; have HO107 := n0_; have HB := n1_; clear n0_ n1_; clear hb ho7))
      go_ret
      exact ⟨_, by first | rfl | (simp [errW_none, errW_some] <;> rfl) | (simp [*, errW_none, errW_some] <;> rfl), by (with_reducible repeat (first | apply Kd.R_alloc | apply Kd.R_drewN | apply Kd.R_drew)); exact HO107.out, by repeat (first | (with_reducible first | exact HB.out | apply below_alloc | apply pw_below_drewN | apply below_drew1) | exact HB.out)⟩
    · rw [if_neg c5] at H
      have c5b0 : (a0 == 2) = false := beq_eq_false_iff_ne.mpr c5
      have c5b1 : (a0 != 2) = true := bne_iff_ne.mpr c5
      obtain rfl := Option.some.inj H
      go_enter Try.func70, Try.ntmps70
      go_wp2
      go_ret
      exact ⟨_, by first | rfl | (simp [errW_none, errW_some] <;> rfl) | (simp [*, errW_none, errW_some] <;> rfl), by first | exact Kd.R_nil _ _ _ _ _ | exact Kd.N_nil _ _ _ _ _ | exact Kd.V_nil _ _ _ _ _ | exact Kd.Q_nil _ _ _ _ _ | exact Kd.S_nil _ _ _ _ _, by repeat (first | (with_reducible first | exact HB.out | apply below_alloc | apply pw_below_drewN | apply below_drew1) | exact HB.out)⟩

/-! ### hooks_Field: function 38 -/
def hooks_Field.f (k : Nat) (a0 : Int) (a1 : ByteArray) : Option (Int × Bool) := (hooks_fields.f a0).bind fun t108 => ((slices_Index_string_string.f k t108 a1).bind fun t111 => (if t111 < 0 then (some (0, false)) else (some (wrap64 (8 * t111), true))))
theorem hooks_Field.mono : ∀ a0 a1 k, LeO (hooks_Field.f k a0 a1) (hooks_Field.f (k + 1) a0 a1) := by
  intro a0 a1 k
  unfold hooks_Field.f
  repeat' first
      | (with_reducible exact slices_Index_string_string.mono _ _ _)
      | (with_reducible exact LeO.refl _)
      | (with_reducible exact LeO.none _)
      | (with_reducible refine LeO.ite ?_ ?_)
      | (with_reducible refine LeO.bind ?_ (fun _ => ?_))
      | exact slices_Index_string_string.mono _ _ _
      | exact LeO.none _
      | refine LeO.ite ?_ ?_
      | refine LeO.bind ?_ (fun _ => ?_)
set_option maxHeartbeats 8000000 in
set_option maxRecDepth 100000 in
theorem hooks_Field.calls (k : Nat) (a0 : Int) (a1 : ByteArray) (r1 : Int) (r2 : Bool) (w : World) (h : hooks_Field.f k a0 a1 = some (r1, r2)) :
    Calls Try.prog 38 #[.int .i64 a0, .string a1] w fun e w' => e = .returned (.tuple #[.int .i64 r1, .bool r2]) ∧ Below w.heap.size w w' := by
  have HB := Aside0.mk (Below.refl w.heap.size w)
  have H : ((hooks_fields.f a0).bind fun t108 => ((slices_Index_string_string.f k t108 a1).bind fun t111 => (if t111 < 0 then (some (0, false)) else (some (wrap64 (8 * t111), true))))) = some (r1, r2) := h
  clear h
  replace H := Option.bind_eq_some_iff.mp H
  obtain ⟨t108, A30, H⟩ := H
  replace H : ((slices_Index_string_string.f k t108 a1).bind fun t111 => (if t111 < 0 then (some (0, false)) else (some (wrap64 (8 * t111), true)))) = some (r1, r2) := H
  have A3 := Aside0.mk A30
  clear A30
  replace H := Option.bind_eq_some_iff.mp H
  obtain ⟨t111, A40, H⟩ := H
  replace H : (if t111 < 0 then (some (0, false)) else (some (wrap64 (8 * t111), true))) = some (r1, r2) := H
  have A4 := Aside0.mk A40
  clear A40
  by_cases c5 : t111 < 0
  · rw [if_pos c5] at H
    have c5b0 : decide (t111 < 0) = true := decide_eq_true c5
    clear c5
    simp only [Option.some.injEq, Prod.mk.injEq] at H
    obtain ⟨rfl, rfl⟩ := H
    go_enter Try.func38, Try.ntmps38
    go_wp2_with (first | ((with_reducible refine gate_callee (f := 70) rfl ?_); refine goesL_ (some 8) rfl rfl Try.func70 (by kernel_rfl) rfl #[.int .i64 a0] rfl (by (try simp only [List.map_toArray, List.map_cons, List.map_nil]); first | done | rfl | (simp only [List.length_drop, List.length_take]; rfl)) ?_; (with_reducible refine (hooks_fields.calls a0 t108 _ A3.out).mono ?_); rintro e w6 ⟨v109, rfl, ho0, hb⟩; refine ⟨_, rfl, ?_⟩; have n0_ := Aside0.mk (Kd.R_lower ho0 (below_size (by repeat (first | (with_reducible first | exact HB.out | apply below_alloc | apply pw_below_drewN | apply below_drew1) | exact HB.out)))); have n1_ := Aside0.mk (below_step (by repeat (first | (with_reducible first | exact HB.out | apply below_alloc | apply pw_below_drewN | apply below_drew1) | exact HB.out)) hb); clear HB; have HO110 := n0_; have HB := n1_; clear n0_ n1_; (try clear hb); (try clear hb2); (try clear hk); (try clear hi); (try clear ho0); obtain ⟨Ao7, co7, eo7⟩ := Kd.R_slice HO110.out; subst eo7) | ((with_reducible refine gate_callee (f := 69) rfl ?_); refine goesL_ (some 10) rfl rfl Try.func69 (by kernel_rfl) rfl #[.slice Ao7 t108.length co7, .string a1] rfl (by (try simp only [List.map_toArray, List.map_cons, List.map_nil]); first | done | rfl | (simp only [List.length_drop, List.length_take]; rfl)) ?_; (with_reducible refine (slices_Index_string_string.calls k _ _ t108 a1 t111 _ ?side1 ?side2 A4.out).mono ?_); (case side1 => repeat (first | exact (Kd.R_reads' HO110.out).2.2 | (with_reducible refine Kd.C_alloc ?_ _) | (with_reducible refine Kd.C_drewN ?_ _) | (with_reducible refine Kd.C_drew ?_))); (case side2 => exact (Kd.R_reads' HO110.out).2.1); rintro e w' ⟨rfl, ⟨nd, rfl⟩⟩; refine ⟨_, rfl, ?_⟩))
    go_ret2
    exact ⟨by first | rfl | (simp [errW_none, errW_some] <;> rfl) | (simp [*, errW_none, errW_some] <;> rfl), by repeat (first | (with_reducible first | exact HB.out | apply below_alloc | apply pw_below_drewN | apply below_drew1) | exact HB.out)⟩
  · rw [if_neg c5] at H
    have c5b0 : decide (t111 < 0) = false := decide_eq_false c5
    clear c5
    simp only [Option.some.injEq, Prod.mk.injEq] at H
    obtain ⟨rfl, rfl⟩ := H
    go_enter Try.func38, Try.ntmps38
    go_wp2_with (first | ((with_reducible refine gate_callee (f := 70) rfl ?_); refine goesL_ (some 8) rfl rfl Try.func70 (by kernel_rfl) rfl #[.int .i64 a0] rfl (by (try simp only [List.map_toArray, List.map_cons, List.map_nil]); first | done | rfl | (simp only [List.length_drop, List.length_take]; rfl)) ?_; (with_reducible refine (hooks_fields.calls a0 t108 _ A3.out).mono ?_); rintro e w8 ⟨v109, rfl, ho0, hb⟩; refine ⟨_, rfl, ?_⟩; have n0_ := Aside0.mk (Kd.R_lower ho0 (below_size (by repeat (first | (with_reducible first | exact HB.out | apply below_alloc | apply pw_below_drewN | apply below_drew1) | exact HB.out)))); have n1_ := Aside0.mk (below_step (by repeat (first | (with_reducible first | exact HB.out | apply below_alloc | apply pw_below_drewN | apply below_drew1) | exact HB.out)) hb); clear HB; have HO110 := n0_; have HB := n1_; clear n0_ n1_; (try clear hb); (try clear hb2); (try clear hk); (try clear hi); (try clear ho0); obtain ⟨Ao9, co9, eo9⟩ := Kd.R_slice HO110.out; subst eo9) | ((with_reducible refine gate_callee (f := 69) rfl ?_); refine goesL_ (some 10) rfl rfl Try.func69 (by kernel_rfl) rfl #[.slice Ao9 t108.length co9, .string a1] rfl (by (try simp only [List.map_toArray, List.map_cons, List.map_nil]); first | done | rfl | (simp only [List.length_drop, List.length_take]; rfl)) ?_; (with_reducible refine (slices_Index_string_string.calls k _ _ t108 a1 t111 _ ?side1 ?side2 A4.out).mono ?_); (case side1 => repeat (first | exact (Kd.R_reads' HO110.out).2.2 | (with_reducible refine Kd.C_alloc ?_ _) | (with_reducible refine Kd.C_drewN ?_ _) | (with_reducible refine Kd.C_drew ?_))); (case side2 => exact (Kd.R_reads' HO110.out).2.1); rintro e w' ⟨rfl, ⟨nd, rfl⟩⟩; refine ⟨_, rfl, ?_⟩))
    go_ret2
    exact ⟨by first | rfl | (simp [errW_none, errW_some] <;> rfl) | (simp [*, errW_none, errW_some] <;> rfl), by repeat (first | (with_reducible first | exact HB.out | apply below_alloc | apply pw_below_drewN | apply below_drew1) | exact HB.out)⟩

end Go.Proofs.Yteckjmejngieeaa.PHooksOf
