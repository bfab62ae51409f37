/- Functions of the program that some laws reach, as Lean functions, and proofs that the program's calls come to what they say: written by a program, for the texts that import it; each theorem bears its own conditions. -/
import Derived.Test.YtdojdjafleaedaaPNarrowSoundx0
namespace Go.Proofs.Ytdojdjafleaedaa.PNarrowSound
open Go.RowKit Go.Proofs.YtdojdjafleaedaaW.PrintWords Go.Proofs.YtdojdjafleaedaaW.PrintLast Go.Proofs.YtdojdjafleaedaaW.PrintMore
attribute [local go_sem] max2_int min2_int max_two min_two max_three min_three max_four min_four   -- for this text's walks alone
set_option linter.unusedVariables false
set_option linter.unusedSimpArgs false

/-- A state of type 87 at block g of W; what its slices lead to came in by w0. -/
def IsS87 (w0 W : World) (g : Nat) (f0 : Int) (f1 : Int) (f2 : Int) (f3 : Int) (f4 : Int) (f5 : Int) (f6 : Int) (f7 : Int) (f8 : Int) (f9 : Int) (f10 : Int) (f11 : Int) (f12 : Bool) : Prop := W.heap[g]? = some (.cells #[.int .u64 f0, .int .u64 f1, .int .u64 f2, .int .u64 f3, .int .i64 f4, .int .i64 f5, .int .u64 f6, .int .u64 f7, .int .u64 f8, .int .u64 f9, .int .i64 f10, .int .i64 f11, .bool f12] 87 (0, 0)) ∧ w0.heap.size ≤ g
theorem IsS87.grown {w0 W : World} {g : Nat} {f0 : Int} {f1 : Int} {f2 : Int} {f3 : Int} {f4 : Int} {f5 : Int} {f6 : Int} {f7 : Int} {f8 : Int} {f9 : Int} {f10 : Int} {f11 : Int} {f12 : Bool} {W1 : World} {row : Option Nat} (h : IsS87 w0 W g f0 f1 f2 f3 f4 f5 f6 f7 f8 f9 f10 f11 f12) (hw : W.grownBy W1 row) (hne : some g ≠ row) : IsS87 w0 W1 g f0 f1 f2 f3 f4 f5 f6 f7 f8 f9 f10 f11 f12 := by
 obtain ⟨hb, hg⟩ := h
 exact ⟨blk_grown hb hw hne, hg⟩
theorem IsS87.own_neN {w0 W : World} {g : Nat} {f0 : Int} {f1 : Int} {f2 : Int} {f3 : Int} {f4 : Int} {f5 : Int} {f6 : Int} {f7 : Int} {f8 : Int} {f9 : Int} {f10 : Int} {f11 : Int} {f12 : Bool} {α : Type} {d : Kd α} {e : Nat} {base : Nat} {ok : Nat → Prop} {v : Value} {xs : List α} (h : IsS87 w0 W g f0 f1 f2 f3 f4 f5 f6 f7 f8 f9 f10 f11 f12) (ho : Kd.N d e W base ok v xs) (ht : e ≠ 87) : some g ≠ v.ownBlock := by
 obtain ⟨hb, hg⟩ := h
 exact Kd.N_ne ho hb ht
theorem IsS87.fresh {w0 W : World} {g : Nat} {f0 : Int} {f1 : Int} {f2 : Int} {f3 : Int} {f4 : Int} {f5 : Int} {f6 : Int} {f7 : Int} {f8 : Int} {f9 : Int} {f10 : Int} {f11 : Int} {f12 : Bool} (h : IsS87 w0 W g f0 f1 f2 f3 f4 f5 f6 f7 f8 f9 f10 f11 f12) : ∀ k, W.heap.size ≤ k → k ≠ g := by
 obtain ⟨hb, hg⟩ := h
 exact Kd.freshB hb
theorem IsS87.kept {w0 W : World} {g : Nat} {f0 : Int} {f1 : Int} {f2 : Int} {f3 : Int} {f4 : Int} {f5 : Int} {f6 : Int} {f7 : Int} {f8 : Int} {f9 : Int} {f10 : Int} {f11 : Int} {f12 : Bool} {W1 : World} {S : Nat → Prop} (h : IsS87 w0 W g f0 f1 f2 f3 f4 f5 f6 f7 f8 f9 f10 f11 f12) (hk : Kept W W1 S) (hne : ¬ S g) : IsS87 w0 W1 g f0 f1 f2 f3 f4 f5 f6 f7 f8 f9 f10 f11 f12 := by
 obtain ⟨hb, hg⟩ := h
 exact ⟨blk_kept hb hk hne, hg⟩
theorem IsS87.below {w0 W : World} {g : Nat} {f0 : Int} {f1 : Int} {f2 : Int} {f3 : Int} {f4 : Int} {f5 : Int} {f6 : Int} {f7 : Int} {f8 : Int} {f9 : Int} {f10 : Int} {f11 : Int} {f12 : Bool} {W1 : World} (h : IsS87 w0 W g f0 f1 f2 f3 f4 f5 f6 f7 f8 f9 f10 f11 f12) (hw : Below W.heap.size W W1) : IsS87 w0 W1 g f0 f1 f2 f3 f4 f5 f6 f7 f8 f9 f10 f11 f12 := h.grown (grown_of_below hw none) (by simp)
theorem IsS87.alloc {w0 W : World} {g : Nat} {f0 : Int} {f1 : Int} {f2 : Int} {f3 : Int} {f4 : Int} {f5 : Int} {f6 : Int} {f7 : Int} {f8 : Int} {f9 : Int} {f10 : Int} {f11 : Int} {f12 : Bool} (h : IsS87 w0 W g f0 f1 f2 f3 f4 f5 f6 f7 f8 f9 f10 f11 f12) (o : Obj) : IsS87 w0 (W.alloc o) g f0 f1 f2 f3 f4 f5 f6 f7 f8 f9 f10 f11 f12 := h.below (below_alloc (Below.refl _ _) o)
theorem IsS87.drewN {w0 W : World} {g : Nat} {f0 : Int} {f1 : Int} {f2 : Int} {f3 : Int} {f4 : Int} {f5 : Int} {f6 : Int} {f7 : Int} {f8 : Int} {f9 : Int} {f10 : Int} {f11 : Int} {f12 : Bool} (h : IsS87 w0 W g f0 f1 f2 f3 f4 f5 f6 f7 f8 f9 f10 f11 f12) (m : Nat) : IsS87 w0 (W.drewN m) g f0 f1 f2 f3 f4 f5 f6 f7 f8 f9 f10 f11 f12 := h
theorem IsS87.drew {w0 W : World} {g : Nat} {f0 : Int} {f1 : Int} {f2 : Int} {f3 : Int} {f4 : Int} {f5 : Int} {f6 : Int} {f7 : Int} {f8 : Int} {f9 : Int} {f10 : Int} {f11 : Int} {f12 : Bool} (h : IsS87 w0 W g f0 f1 f2 f3 f4 f5 f6 f7 f8 f9 f10 f11 f12) : IsS87 w0 W.drew g f0 f1 f2 f3 f4 f5 f6 f7 f8 f9 f10 f11 f12 := h
theorem IsS87.at_ {w0 W : World} {g : Nat} {f0 : Int} {f1 : Int} {f2 : Int} {f3 : Int} {f4 : Int} {f5 : Int} {f6 : Int} {f7 : Int} {f8 : Int} {f9 : Int} {f10 : Int} {f11 : Int} {f12 : Bool} {w' : World} {m : Nat} (hq : W.drewN m = w') (h : IsS87 w0 W g f0 f1 f2 f3 f4 f5 f6 f7 f8 f9 f10 f11 f12) : IsS87 w0 w' g f0 f1 f2 f3 f4 f5 f6 f7 f8 f9 f10 f11 f12 := by subst hq; exact IsS87.drewN h m
theorem IsS87.apart {w0 W : World} {g : Nat} {f0 : Int} {f1 : Int} {f2 : Int} {f3 : Int} {f4 : Int} {f5 : Int} {f6 : Int} {f7 : Int} {f8 : Int} {f9 : Int} {f10 : Int} {f11 : Int} {f12 : Bool} {α : Type} {d : Kd α} {e : Nat} {base : Nat} {ok : Nat → Prop} {v : Value} {xs : List α} (h : IsS87 w0 W g f0 f1 f2 f3 f4 f5 f6 f7 f8 f9 f10 f11 f12) (ho : d.R e W base ok v xs) (ht : ∀ q, q ∈ e :: d.E → q ≠ 87) : d.R e W base (fun k => ok k ∧ k ≠ g) v xs := by
 obtain ⟨hb, hg⟩ := h
 exact Kd.R_types ho hb ht
theorem IsS87.own_ne {w0 W : World} {g : Nat} {f0 : Int} {f1 : Int} {f2 : Int} {f3 : Int} {f4 : Int} {f5 : Int} {f6 : Int} {f7 : Int} {f8 : Int} {f9 : Int} {f10 : Int} {f11 : Int} {f12 : Bool} {α : Type} {d : Kd α} {e : Nat} {base : Nat} {ok : Nat → Prop} {v : Value} {xs : List α} (h : IsS87 w0 W g f0 f1 f2 f3 f4 f5 f6 f7 f8 f9 f10 f11 f12) (ho : d.R e W base ok v xs) (ht : e ≠ 87) : some g ≠ v.ownBlock := by
 obtain ⟨hb, hg⟩ := h
 exact Kd.R_ne ho hb ht
theorem IsS87.apartQ {w0 W : World} {g : Nat} {f0 : Int} {f1 : Int} {f2 : Int} {f3 : Int} {f4 : Int} {f5 : Int} {f6 : Int} {f7 : Int} {f8 : Int} {f9 : Int} {f10 : Int} {f11 : Int} {f12 : Bool} {α : Type} {d : Kd α} {e : Nat} {base : Nat} {ok : Nat → Prop} {v : Value} {xs : List α} (h : IsS87 w0 W g f0 f1 f2 f3 f4 f5 f6 f7 f8 f9 f10 f11 f12) (ho : d.Q e W base ok v xs) (ht : ∀ q, q ∈ e :: d.E → q ≠ 87) : d.Q e W base (fun k => ok k ∧ k ≠ g) v xs := by
 obtain ⟨hb, hg⟩ := h
 exact Kd.Q_types ho hb ht
theorem IsS87.own_neQ {w0 W : World} {g : Nat} {f0 : Int} {f1 : Int} {f2 : Int} {f3 : Int} {f4 : Int} {f5 : Int} {f6 : Int} {f7 : Int} {f8 : Int} {f9 : Int} {f10 : Int} {f11 : Int} {f12 : Bool} {α : Type} {d : Kd α} {e : Nat} {base : Nat} {ok : Nat → Prop} {v : Value} {xs : List α} (h : IsS87 w0 W g f0 f1 f2 f3 f4 f5 f6 f7 f8 f9 f10 f11 f12) (ho : d.Q e W base ok v xs) (ht : e ≠ 87) : some g ≠ v.ownBlock := by
 obtain ⟨hb, hg⟩ := h
 exact Kd.Q_ne ho hb ht
theorem IsS87.apartS {w0 W : World} {g : Nat} {f0 : Int} {f1 : Int} {f2 : Int} {f3 : Int} {f4 : Int} {f5 : Int} {f6 : Int} {f7 : Int} {f8 : Int} {f9 : Int} {f10 : Int} {f11 : Int} {f12 : Bool} {α : Type} {d : Kd α} {e : Nat} {base : Nat} {ok : Nat → Prop} {v : Value} {xs : List α} (h : IsS87 w0 W g f0 f1 f2 f3 f4 f5 f6 f7 f8 f9 f10 f11 f12) (ho : d.S e W base ok v xs) (ht : ∀ q, q ∈ e :: d.E → q ≠ 87) : d.S e W base (fun k => ok k ∧ k ≠ g) v xs := by
 obtain ⟨hb, hg⟩ := h
 exact Kd.S_types ho hb ht
theorem IsS87.own_neS {w0 W : World} {g : Nat} {f0 : Int} {f1 : Int} {f2 : Int} {f3 : Int} {f4 : Int} {f5 : Int} {f6 : Int} {f7 : Int} {f8 : Int} {f9 : Int} {f10 : Int} {f11 : Int} {f12 : Bool} {α : Type} {d : Kd α} {e : Nat} {base : Nat} {ok : Nat → Prop} {v : Value} {xs : List α} (h : IsS87 w0 W g f0 f1 f2 f3 f4 f5 f6 f7 f8 f9 f10 f11 f12) (ho : d.S e W base ok v xs) (ht : e ≠ 87) : some g ≠ v.ownBlock := by
 obtain ⟨hb, hg⟩ := h
 exact Kd.S_ne ho hb ht
theorem IsS87.lt {w0 W : World} {g : Nat} {f0 : Int} {f1 : Int} {f2 : Int} {f3 : Int} {f4 : Int} {f5 : Int} {f6 : Int} {f7 : Int} {f8 : Int} {f9 : Int} {f10 : Int} {f11 : Int} {f12 : Bool} (h : IsS87 w0 W g f0 f1 f2 f3 f4 f5 f6 f7 f8 f9 f10 f11 f12) : g < W.heap.size := by
 obtain ⟨hb, hg⟩ := h
 exact blk_lt hb
theorem IsS87.ge {w0 W : World} {g : Nat} {f0 : Int} {f1 : Int} {f2 : Int} {f3 : Int} {f4 : Int} {f5 : Int} {f6 : Int} {f7 : Int} {f8 : Int} {f9 : Int} {f10 : Int} {f11 : Int} {f12 : Bool} (h : IsS87 w0 W g f0 f1 f2 f3 f4 f5 f6 f7 f8 f9 f10 f11 f12) : w0.heap.size ≤ g := by
 obtain ⟨hb, hg⟩ := h
 exact hg
theorem IsS87.ne_blk {w0 W : World} {g : Nat} {f0 : Int} {f1 : Int} {f2 : Int} {f3 : Int} {f4 : Int} {f5 : Int} {f6 : Int} {f7 : Int} {f8 : Int} {f9 : Int} {f10 : Int} {f11 : Int} {f12 : Bool} {a : Nat} {cs : Array Value} {t : TypeId} {fr : Nat × Nat} (h : IsS87 w0 W g f0 f1 f2 f3 f4 f5 f6 f7 f8 f9 f10 f11 f12) (hb2 : W.heap[a]? = some (.cells cs t fr)) (ht : t ≠ 87) : g ≠ a := by
 obtain ⟨hb, hg⟩ := h
 rintro rfl
 rw [hb] at hb2
 injection hb2 with hb2
 injection hb2 with _ ht2
 exact ht ht2.symm
theorem IsS87.far {w0 W : World} {g : Nat} {f0 : Int} {f1 : Int} {f2 : Int} {f3 : Int} {f4 : Int} {f5 : Int} {f6 : Int} {f7 : Int} {f8 : Int} {f9 : Int} {f10 : Int} {f11 : Int} {f12 : Bool} {p : Addr} (h : IsS87 w0 W g f0 f1 f2 f3 f4 f5 f6 f7 f8 f9 f10 f11 f12) (hne : g ≠ p.block) (u : Value) : IsS87 w0 (W.setCell p u) g f0 f1 f2 f3 f4 f5 f6 f7 f8 f9 f10 f11 f12 := by
 obtain ⟨hb, hg⟩ := h
 exact ⟨blk_far hb hne u, hg⟩
theorem cellS87_0 {W : World} {g : Nat} {f0 : Int} {f1 : Int} {f2 : Int} {f3 : Int} {f4 : Int} {f5 : Int} {f6 : Int} {f7 : Int} {f8 : Int} {f9 : Int} {f10 : Int} {f11 : Int} {f12 : Bool} (h : W.heap[g]? = some (.cells #[.int .u64 f0, .int .u64 f1, .int .u64 f2, .int .u64 f3, .int .i64 f4, .int .i64 f5, .int .u64 f6, .int .u64 f7, .int .u64 f8, .int .u64 f9, .int .i64 f10, .int .i64 f11, .bool f12] 87 (0, 0))) : W.cell? ⟨g, 0, none⟩ = some (.int .u64 f0) := (blk_cell h 0).trans rfl
theorem IsS87.set_0 {w0 W : World} {g : Nat} {f0 : Int} {f1 : Int} {f2 : Int} {f3 : Int} {f4 : Int} {f5 : Int} {f6 : Int} {f7 : Int} {f8 : Int} {f9 : Int} {f10 : Int} {f11 : Int} {f12 : Bool} (h : IsS87 w0 W g f0 f1 f2 f3 f4 f5 f6 f7 f8 f9 f10 f11 f12) (x : Int) : IsS87 w0 (W.setCell ⟨g, 0, none⟩ (.int .u64 x)) g x f1 f2 f3 f4 f5 f6 f7 f8 f9 f10 f11 f12 := by
 obtain ⟨hb, hg⟩ := h
 exact ⟨by simpa using blk_set hb 0 (.int .u64 x), hg⟩
theorem cellS87_1 {W : World} {g : Nat} {f0 : Int} {f1 : Int} {f2 : Int} {f3 : Int} {f4 : Int} {f5 : Int} {f6 : Int} {f7 : Int} {f8 : Int} {f9 : Int} {f10 : Int} {f11 : Int} {f12 : Bool} (h : W.heap[g]? = some (.cells #[.int .u64 f0, .int .u64 f1, .int .u64 f2, .int .u64 f3, .int .i64 f4, .int .i64 f5, .int .u64 f6, .int .u64 f7, .int .u64 f8, .int .u64 f9, .int .i64 f10, .int .i64 f11, .bool f12] 87 (0, 0))) : W.cell? ⟨g, 1, none⟩ = some (.int .u64 f1) := (blk_cell h 1).trans rfl
theorem IsS87.set_1 {w0 W : World} {g : Nat} {f0 : Int} {f1 : Int} {f2 : Int} {f3 : Int} {f4 : Int} {f5 : Int} {f6 : Int} {f7 : Int} {f8 : Int} {f9 : Int} {f10 : Int} {f11 : Int} {f12 : Bool} (h : IsS87 w0 W g f0 f1 f2 f3 f4 f5 f6 f7 f8 f9 f10 f11 f12) (x : Int) : IsS87 w0 (W.setCell ⟨g, 1, none⟩ (.int .u64 x)) g f0 x f2 f3 f4 f5 f6 f7 f8 f9 f10 f11 f12 := by
 obtain ⟨hb, hg⟩ := h
 exact ⟨by simpa using blk_set hb 1 (.int .u64 x), hg⟩
theorem cellS87_2 {W : World} {g : Nat} {f0 : Int} {f1 : Int} {f2 : Int} {f3 : Int} {f4 : Int} {f5 : Int} {f6 : Int} {f7 : Int} {f8 : Int} {f9 : Int} {f10 : Int} {f11 : Int} {f12 : Bool} (h : W.heap[g]? = some (.cells #[.int .u64 f0, .int .u64 f1, .int .u64 f2, .int .u64 f3, .int .i64 f4, .int .i64 f5, .int .u64 f6, .int .u64 f7, .int .u64 f8, .int .u64 f9, .int .i64 f10, .int .i64 f11, .bool f12] 87 (0, 0))) : W.cell? ⟨g, 2, none⟩ = some (.int .u64 f2) := (blk_cell h 2).trans rfl
theorem IsS87.set_2 {w0 W : World} {g : Nat} {f0 : Int} {f1 : Int} {f2 : Int} {f3 : Int} {f4 : Int} {f5 : Int} {f6 : Int} {f7 : Int} {f8 : Int} {f9 : Int} {f10 : Int} {f11 : Int} {f12 : Bool} (h : IsS87 w0 W g f0 f1 f2 f3 f4 f5 f6 f7 f8 f9 f10 f11 f12) (x : Int) : IsS87 w0 (W.setCell ⟨g, 2, none⟩ (.int .u64 x)) g f0 f1 x f3 f4 f5 f6 f7 f8 f9 f10 f11 f12 := by
 obtain ⟨hb, hg⟩ := h
 exact ⟨by simpa using blk_set hb 2 (.int .u64 x), hg⟩
theorem cellS87_3 {W : World} {g : Nat} {f0 : Int} {f1 : Int} {f2 : Int} {f3 : Int} {f4 : Int} {f5 : Int} {f6 : Int} {f7 : Int} {f8 : Int} {f9 : Int} {f10 : Int} {f11 : Int} {f12 : Bool} (h : W.heap[g]? = some (.cells #[.int .u64 f0, .int .u64 f1, .int .u64 f2, .int .u64 f3, .int .i64 f4, .int .i64 f5, .int .u64 f6, .int .u64 f7, .int .u64 f8, .int .u64 f9, .int .i64 f10, .int .i64 f11, .bool f12] 87 (0, 0))) : W.cell? ⟨g, 3, none⟩ = some (.int .u64 f3) := (blk_cell h 3).trans rfl
theorem IsS87.set_3 {w0 W : World} {g : Nat} {f0 : Int} {f1 : Int} {f2 : Int} {f3 : Int} {f4 : Int} {f5 : Int} {f6 : Int} {f7 : Int} {f8 : Int} {f9 : Int} {f10 : Int} {f11 : Int} {f12 : Bool} (h : IsS87 w0 W g f0 f1 f2 f3 f4 f5 f6 f7 f8 f9 f10 f11 f12) (x : Int) : IsS87 w0 (W.setCell ⟨g, 3, none⟩ (.int .u64 x)) g f0 f1 f2 x f4 f5 f6 f7 f8 f9 f10 f11 f12 := by
 obtain ⟨hb, hg⟩ := h
 exact ⟨by simpa using blk_set hb 3 (.int .u64 x), hg⟩
theorem cellS87_4 {W : World} {g : Nat} {f0 : Int} {f1 : Int} {f2 : Int} {f3 : Int} {f4 : Int} {f5 : Int} {f6 : Int} {f7 : Int} {f8 : Int} {f9 : Int} {f10 : Int} {f11 : Int} {f12 : Bool} (h : W.heap[g]? = some (.cells #[.int .u64 f0, .int .u64 f1, .int .u64 f2, .int .u64 f3, .int .i64 f4, .int .i64 f5, .int .u64 f6, .int .u64 f7, .int .u64 f8, .int .u64 f9, .int .i64 f10, .int .i64 f11, .bool f12] 87 (0, 0))) : W.cell? ⟨g, 4, none⟩ = some (.int .i64 f4) := (blk_cell h 4).trans rfl
theorem IsS87.set_4 {w0 W : World} {g : Nat} {f0 : Int} {f1 : Int} {f2 : Int} {f3 : Int} {f4 : Int} {f5 : Int} {f6 : Int} {f7 : Int} {f8 : Int} {f9 : Int} {f10 : Int} {f11 : Int} {f12 : Bool} (h : IsS87 w0 W g f0 f1 f2 f3 f4 f5 f6 f7 f8 f9 f10 f11 f12) (x : Int) : IsS87 w0 (W.setCell ⟨g, 4, none⟩ (.int .i64 x)) g f0 f1 f2 f3 x f5 f6 f7 f8 f9 f10 f11 f12 := by
 obtain ⟨hb, hg⟩ := h
 exact ⟨by simpa using blk_set hb 4 (.int .i64 x), hg⟩
theorem cellS87_5 {W : World} {g : Nat} {f0 : Int} {f1 : Int} {f2 : Int} {f3 : Int} {f4 : Int} {f5 : Int} {f6 : Int} {f7 : Int} {f8 : Int} {f9 : Int} {f10 : Int} {f11 : Int} {f12 : Bool} (h : W.heap[g]? = some (.cells #[.int .u64 f0, .int .u64 f1, .int .u64 f2, .int .u64 f3, .int .i64 f4, .int .i64 f5, .int .u64 f6, .int .u64 f7, .int .u64 f8, .int .u64 f9, .int .i64 f10, .int .i64 f11, .bool f12] 87 (0, 0))) : W.cell? ⟨g, 5, none⟩ = some (.int .i64 f5) := (blk_cell h 5).trans rfl
theorem IsS87.set_5 {w0 W : World} {g : Nat} {f0 : Int} {f1 : Int} {f2 : Int} {f3 : Int} {f4 : Int} {f5 : Int} {f6 : Int} {f7 : Int} {f8 : Int} {f9 : Int} {f10 : Int} {f11 : Int} {f12 : Bool} (h : IsS87 w0 W g f0 f1 f2 f3 f4 f5 f6 f7 f8 f9 f10 f11 f12) (x : Int) : IsS87 w0 (W.setCell ⟨g, 5, none⟩ (.int .i64 x)) g f0 f1 f2 f3 f4 x f6 f7 f8 f9 f10 f11 f12 := by
 obtain ⟨hb, hg⟩ := h
 exact ⟨by simpa using blk_set hb 5 (.int .i64 x), hg⟩
theorem cellS87_6 {W : World} {g : Nat} {f0 : Int} {f1 : Int} {f2 : Int} {f3 : Int} {f4 : Int} {f5 : Int} {f6 : Int} {f7 : Int} {f8 : Int} {f9 : Int} {f10 : Int} {f11 : Int} {f12 : Bool} (h : W.heap[g]? = some (.cells #[.int .u64 f0, .int .u64 f1, .int .u64 f2, .int .u64 f3, .int .i64 f4, .int .i64 f5, .int .u64 f6, .int .u64 f7, .int .u64 f8, .int .u64 f9, .int .i64 f10, .int .i64 f11, .bool f12] 87 (0, 0))) : W.cell? ⟨g, 6, none⟩ = some (.int .u64 f6) := (blk_cell h 6).trans rfl
theorem IsS87.set_6 {w0 W : World} {g : Nat} {f0 : Int} {f1 : Int} {f2 : Int} {f3 : Int} {f4 : Int} {f5 : Int} {f6 : Int} {f7 : Int} {f8 : Int} {f9 : Int} {f10 : Int} {f11 : Int} {f12 : Bool} (h : IsS87 w0 W g f0 f1 f2 f3 f4 f5 f6 f7 f8 f9 f10 f11 f12) (x : Int) : IsS87 w0 (W.setCell ⟨g, 6, none⟩ (.int .u64 x)) g f0 f1 f2 f3 f4 f5 x f7 f8 f9 f10 f11 f12 := by
 obtain ⟨hb, hg⟩ := h
 exact ⟨by simpa using blk_set hb 6 (.int .u64 x), hg⟩
theorem cellS87_7 {W : World} {g : Nat} {f0 : Int} {f1 : Int} {f2 : Int} {f3 : Int} {f4 : Int} {f5 : Int} {f6 : Int} {f7 : Int} {f8 : Int} {f9 : Int} {f10 : Int} {f11 : Int} {f12 : Bool} (h : W.heap[g]? = some (.cells #[.int .u64 f0, .int .u64 f1, .int .u64 f2, .int .u64 f3, .int .i64 f4, .int .i64 f5, .int .u64 f6, .int .u64 f7, .int .u64 f8, .int .u64 f9, .int .i64 f10, .int .i64 f11, .bool f12] 87 (0, 0))) : W.cell? ⟨g, 7, none⟩ = some (.int .u64 f7) := (blk_cell h 7).trans rfl
theorem IsS87.set_7 {w0 W : World} {g : Nat} {f0 : Int} {f1 : Int} {f2 : Int} {f3 : Int} {f4 : Int} {f5 : Int} {f6 : Int} {f7 : Int} {f8 : Int} {f9 : Int} {f10 : Int} {f11 : Int} {f12 : Bool} (h : IsS87 w0 W g f0 f1 f2 f3 f4 f5 f6 f7 f8 f9 f10 f11 f12) (x : Int) : IsS87 w0 (W.setCell ⟨g, 7, none⟩ (.int .u64 x)) g f0 f1 f2 f3 f4 f5 f6 x f8 f9 f10 f11 f12 := by
 obtain ⟨hb, hg⟩ := h
 exact ⟨by simpa using blk_set hb 7 (.int .u64 x), hg⟩
theorem cellS87_8 {W : World} {g : Nat} {f0 : Int} {f1 : Int} {f2 : Int} {f3 : Int} {f4 : Int} {f5 : Int} {f6 : Int} {f7 : Int} {f8 : Int} {f9 : Int} {f10 : Int} {f11 : Int} {f12 : Bool} (h : W.heap[g]? = some (.cells #[.int .u64 f0, .int .u64 f1, .int .u64 f2, .int .u64 f3, .int .i64 f4, .int .i64 f5, .int .u64 f6, .int .u64 f7, .int .u64 f8, .int .u64 f9, .int .i64 f10, .int .i64 f11, .bool f12] 87 (0, 0))) : W.cell? ⟨g, 8, none⟩ = some (.int .u64 f8) := (blk_cell h 8).trans rfl
theorem IsS87.set_8 {w0 W : World} {g : Nat} {f0 : Int} {f1 : Int} {f2 : Int} {f3 : Int} {f4 : Int} {f5 : Int} {f6 : Int} {f7 : Int} {f8 : Int} {f9 : Int} {f10 : Int} {f11 : Int} {f12 : Bool} (h : IsS87 w0 W g f0 f1 f2 f3 f4 f5 f6 f7 f8 f9 f10 f11 f12) (x : Int) : IsS87 w0 (W.setCell ⟨g, 8, none⟩ (.int .u64 x)) g f0 f1 f2 f3 f4 f5 f6 f7 x f9 f10 f11 f12 := by
 obtain ⟨hb, hg⟩ := h
 exact ⟨by simpa using blk_set hb 8 (.int .u64 x), hg⟩
theorem cellS87_9 {W : World} {g : Nat} {f0 : Int} {f1 : Int} {f2 : Int} {f3 : Int} {f4 : Int} {f5 : Int} {f6 : Int} {f7 : Int} {f8 : Int} {f9 : Int} {f10 : Int} {f11 : Int} {f12 : Bool} (h : W.heap[g]? = some (.cells #[.int .u64 f0, .int .u64 f1, .int .u64 f2, .int .u64 f3, .int .i64 f4, .int .i64 f5, .int .u64 f6, .int .u64 f7, .int .u64 f8, .int .u64 f9, .int .i64 f10, .int .i64 f11, .bool f12] 87 (0, 0))) : W.cell? ⟨g, 9, none⟩ = some (.int .u64 f9) := (blk_cell h 9).trans rfl
theorem IsS87.set_9 {w0 W : World} {g : Nat} {f0 : Int} {f1 : Int} {f2 : Int} {f3 : Int} {f4 : Int} {f5 : Int} {f6 : Int} {f7 : Int} {f8 : Int} {f9 : Int} {f10 : Int} {f11 : Int} {f12 : Bool} (h : IsS87 w0 W g f0 f1 f2 f3 f4 f5 f6 f7 f8 f9 f10 f11 f12) (x : Int) : IsS87 w0 (W.setCell ⟨g, 9, none⟩ (.int .u64 x)) g f0 f1 f2 f3 f4 f5 f6 f7 f8 x f10 f11 f12 := by
 obtain ⟨hb, hg⟩ := h
 exact ⟨by simpa using blk_set hb 9 (.int .u64 x), hg⟩
theorem cellS87_10 {W : World} {g : Nat} {f0 : Int} {f1 : Int} {f2 : Int} {f3 : Int} {f4 : Int} {f5 : Int} {f6 : Int} {f7 : Int} {f8 : Int} {f9 : Int} {f10 : Int} {f11 : Int} {f12 : Bool} (h : W.heap[g]? = some (.cells #[.int .u64 f0, .int .u64 f1, .int .u64 f2, .int .u64 f3, .int .i64 f4, .int .i64 f5, .int .u64 f6, .int .u64 f7, .int .u64 f8, .int .u64 f9, .int .i64 f10, .int .i64 f11, .bool f12] 87 (0, 0))) : W.cell? ⟨g, 10, none⟩ = some (.int .i64 f10) := (blk_cell h 10).trans rfl
theorem IsS87.set_10 {w0 W : World} {g : Nat} {f0 : Int} {f1 : Int} {f2 : Int} {f3 : Int} {f4 : Int} {f5 : Int} {f6 : Int} {f7 : Int} {f8 : Int} {f9 : Int} {f10 : Int} {f11 : Int} {f12 : Bool} (h : IsS87 w0 W g f0 f1 f2 f3 f4 f5 f6 f7 f8 f9 f10 f11 f12) (x : Int) : IsS87 w0 (W.setCell ⟨g, 10, none⟩ (.int .i64 x)) g f0 f1 f2 f3 f4 f5 f6 f7 f8 f9 x f11 f12 := by
 obtain ⟨hb, hg⟩ := h
 exact ⟨by simpa using blk_set hb 10 (.int .i64 x), hg⟩
theorem cellS87_11 {W : World} {g : Nat} {f0 : Int} {f1 : Int} {f2 : Int} {f3 : Int} {f4 : Int} {f5 : Int} {f6 : Int} {f7 : Int} {f8 : Int} {f9 : Int} {f10 : Int} {f11 : Int} {f12 : Bool} (h : W.heap[g]? = some (.cells #[.int .u64 f0, .int .u64 f1, .int .u64 f2, .int .u64 f3, .int .i64 f4, .int .i64 f5, .int .u64 f6, .int .u64 f7, .int .u64 f8, .int .u64 f9, .int .i64 f10, .int .i64 f11, .bool f12] 87 (0, 0))) : W.cell? ⟨g, 11, none⟩ = some (.int .i64 f11) := (blk_cell h 11).trans rfl
theorem IsS87.set_11 {w0 W : World} {g : Nat} {f0 : Int} {f1 : Int} {f2 : Int} {f3 : Int} {f4 : Int} {f5 : Int} {f6 : Int} {f7 : Int} {f8 : Int} {f9 : Int} {f10 : Int} {f11 : Int} {f12 : Bool} (h : IsS87 w0 W g f0 f1 f2 f3 f4 f5 f6 f7 f8 f9 f10 f11 f12) (x : Int) : IsS87 w0 (W.setCell ⟨g, 11, none⟩ (.int .i64 x)) g f0 f1 f2 f3 f4 f5 f6 f7 f8 f9 f10 x f12 := by
 obtain ⟨hb, hg⟩ := h
 exact ⟨by simpa using blk_set hb 11 (.int .i64 x), hg⟩
theorem cellS87_12 {W : World} {g : Nat} {f0 : Int} {f1 : Int} {f2 : Int} {f3 : Int} {f4 : Int} {f5 : Int} {f6 : Int} {f7 : Int} {f8 : Int} {f9 : Int} {f10 : Int} {f11 : Int} {f12 : Bool} (h : W.heap[g]? = some (.cells #[.int .u64 f0, .int .u64 f1, .int .u64 f2, .int .u64 f3, .int .i64 f4, .int .i64 f5, .int .u64 f6, .int .u64 f7, .int .u64 f8, .int .u64 f9, .int .i64 f10, .int .i64 f11, .bool f12] 87 (0, 0))) : W.cell? ⟨g, 12, none⟩ = some (.bool f12) := (blk_cell h 12).trans rfl
theorem IsS87.set_12 {w0 W : World} {g : Nat} {f0 : Int} {f1 : Int} {f2 : Int} {f3 : Int} {f4 : Int} {f5 : Int} {f6 : Int} {f7 : Int} {f8 : Int} {f9 : Int} {f10 : Int} {f11 : Int} {f12 : Bool} (h : IsS87 w0 W g f0 f1 f2 f3 f4 f5 f6 f7 f8 f9 f10 f11 f12) (x : Bool) : IsS87 w0 (W.setCell ⟨g, 12, none⟩ (.bool x)) g f0 f1 f2 f3 f4 f5 f6 f7 f8 f9 f10 f11 x := by
 obtain ⟨hb, hg⟩ := h
 exact ⟨by simpa using blk_set hb 12 (.bool x), hg⟩
theorem IsS87.new (w0 W : World) (f0 : Int) (f1 : Int) (f2 : Int) (f3 : Int) (f4 : Int) (f5 : Int) (f6 : Int) (f7 : Int) (f8 : Int) (f9 : Int) (f10 : Int) (f11 : Int) (f12 : Bool) (hB : Below w0.heap.size w0 W) : IsS87 w0 (W.alloc (.cells #[.int .u64 f0, .int .u64 f1, .int .u64 f2, .int .u64 f3, .int .i64 f4, .int .i64 f5, .int .u64 f6, .int .u64 f7, .int .u64 f8, .int .u64 f9, .int .i64 f10, .int .i64 f11, .bool f12] 87)) W.heap.size f0 f1 f2 f3 f4 f5 f6 f7 f8 f9 f10 f11 f12 := ⟨by simpa using heap_alloc_new W _, hB.size⟩
/-! ### narrow_pair_above: function 89 -/
open Go.Proofs.Hp Go.Proofs.Ev
structure NwP where
 (a0 a1 a2 a3 a4 a5 b0 b1 b2 b3 b4 b5 : Int)
 (nn : Bool)
def NwP.obj (p : NwP) : Obj := .cells #[.int .u64 p.a0, .int .u64 p.a1, .int .u64 p.a2, .int .u64 p.a3, .int .i64 p.a4, .int .i64 p.a5, .int .u64 p.b0, .int .u64 p.b1, .int .u64 p.b2, .int .u64 p.b3, .int .i64 p.b4, .int .i64 p.b5, .bool p.nn] 87 (0, 0)
/-- What a method does to a pair. -/
def NwOk (f : FuncId) (m : NwP → Option NwP) : Prop := ∀ (p q : NwP) (gp : Nat) (w0 w : World) (L : Hl), m p = some q → Own w0 w ((gp, p.obj) :: L) → Calls Try.prog f #[.pointer (some ⟨gp, 0, none⟩)] w fun e w' => e = .returned (.tuple #[]) ∧ Own w0 w' ((gp, q.obj) :: L)
theorem _root_.Go.Proofs.Hp.Own.twoz {w0 W : World} {a b : Nat × Obj} {L : Hl} (h : Own w0 W (a :: b :: L)) : Own w0 W (b :: a :: L) := h.perm (List.Perm.swap _ _ _)
theorem _root_.Go.Proofs.Hp.Own.mid {w0 W : World} {a b : Nat × Obj} {L : Hl} (h : Own w0 W (a :: b :: L)) : Own w0 W (a :: L) := (h.perm (List.Perm.swap _ _ _)).drop
def nw_above (p : NwP) : Option NwP := match p with
 | ⟨a0, a1, a2, a3, a4, a5, b0, b1, b2, b3, b4, b5, nn⟩ => if (b2 == 18446744073709551615) = true then some ⟨a0, a1, a2, a3, a4, a5, b0, b1, b2, b3, b4, b5, true⟩ else if (a3 == 0) = true then some ⟨a0, a1, a2, a3, a4, a5, b0, b1, b2, b3, b4, b5, true⟩ else some ⟨a0, a1, mx a2 (IntKind.u64.wrap (b2 + 1)), a3, a4, a5, b0, b1, b2, mn b3 (IntKind.u64.wrap (a3 - 1)), b4, b5, nn⟩
set_option maxHeartbeats 8000000 in
set_option maxRecDepth 100000 in
theorem nw_above_ok : NwOk 89 nw_above := by
 intro p q gp w0 w L h hO
 obtain ⟨a0, a1, a2, a3, a4, a5, b0, b1, b2, b3, b4, b5, nn⟩ := p
 have HO : Aside0 (Own w0 w ((gp, .cells #[.int .u64 a0, .int .u64 a1, .int .u64 a2, .int .u64 a3, .int .i64 a4, .int .i64 a5, .int .u64 b0, .int .u64 b1, .int .u64 b2, .int .u64 b3, .int .i64 b4, .int .i64 b5, .bool nn] 87 (0, 0)) :: L)) := ⟨hO⟩
 clear hO
 have hup := Try.underlying87
 have hun := Try.underlying36
 have hut := Try.underlying34
 have huu := Try.underlying22
 have hui := Try.underlying2
 have hub := Try.underlying4
 have hc1 : World.cell? _ ⟨gp, 8, none⟩ = some (.int .u64 b2) := (HO.out.cell .head 8).trans rfl
 have hc2 : World.cell? _ ⟨gp, 3, none⟩ = some (.int .u64 a3) := (HO.out.cell .head 3).trans rfl
 unfold nw_above at h
 dsimp only at h
 by_cases c1 : (b2 == 18446744073709551615) = true
 ·rw [if_pos c1] at h
  obtain rfl := Option.some.inj h
  clear h
  go_enter Try.func89, Try.ntmps89
  go_wp2_with ((with_reducible refine gate_store (p := 18) rfl ?_); refine own_store HO.out rfl (ty := 4) (x := .tmp 18) (y := .const (.bool true)) (v := .bool true) (cs' := #[.int .u64 a0, .int .u64 a1, .int .u64 a2, .int .u64 a3, .int .i64 a4, .int .i64 a5, .int .u64 b0, .int .u64 b1, .int .u64 b2, .int .u64 b3, .int .i64 b4, .int .i64 b5, .bool true]) rfl (by rfl) (by rfl) (by (repeat (first | exact .head | apply Ext.tail))) (by kernel_rfl) (by rfl) (by first | decide | (simp; done)) (by rfl) ?_; intro wc hO_; clear HO; have HO := Aside0.mk hO_; clear hO_)
  (first | go_end0 | refine bodyPost_ret (results_none rfl _ _ _) rfl ?_)
  exact ⟨rfl, HO.out⟩
 rw [if_neg c1] at h
 have c1 : (b2 == 18446744073709551615) = false := by simpa using c1
 by_cases c2 : (a3 == 0) = true
 ·rw [if_pos c2] at h
  obtain rfl := Option.some.inj h
  clear h
  go_enter Try.func89, Try.ntmps89
  go_wp2_with ((with_reducible refine gate_store (p := 18) rfl ?_); refine own_store HO.out rfl (ty := 4) (x := .tmp 18) (y := .const (.bool true)) (v := .bool true) (cs' := #[.int .u64 a0, .int .u64 a1, .int .u64 a2, .int .u64 a3, .int .i64 a4, .int .i64 a5, .int .u64 b0, .int .u64 b1, .int .u64 b2, .int .u64 b3, .int .i64 b4, .int .i64 b5, .bool true]) rfl (by rfl) (by rfl) (by (repeat (first | exact .head | apply Ext.tail))) (by kernel_rfl) (by rfl) (by first | decide | (simp; done)) (by rfl) ?_; intro wc hO_; clear HO; have HO := Aside0.mk hO_; clear hO_)
  (first | go_end0 | refine bodyPost_ret (results_none rfl _ _ _) rfl ?_)
  exact ⟨rfl, HO.out⟩
 rw [if_neg c2] at h
 have c2 : (a3 == 0) = false := by simpa using c2
 obtain rfl := Option.some.inj h
 clear h
 go_enter Try.func89, Try.ntmps89
 go_wp2
 refine start_ (n := 34) (S := fun W => Own w0 W ((gp, .cells #[.int .u64 a0, .int .u64 a1, .int .u64 a2, .int .u64 a3, .int .i64 a4, .int .i64 a5, .int .u64 b0, .int .u64 b1, .int .u64 b2, .int .u64 b3, .int .i64 b4, .int .i64 b5, .bool nn] 87 (0, 0)) :: L)) (ds := [29, 33]) #[false, false, false, false, false, false, false, false, false, false, false, false, false, false, false, false, false, false, false, false, false, false, false, false, false, false, false, false, false, false, false, false, false, false] (by kernel_rfl) rfl rfl (Own.drew (HO.out)) (fun hHeld => ?_)
 have HO_ := Aside0.mk HO.out.drew
 clear HO
 have HO := HO_
 clear HO_
 generalize World.drew _ = wr at HO hHeld ⊢
 refine pure_ (i := 0) (N := some 19) (v := ?_) (a' := ?_) (up 34 1) rfl rfl (by kernel_rfl) (fun _ _ _ h => h) (Or.inl ⟨by rfl, ?_⟩) ?_ ?_
 rotate_left
 ·intro w'
  go_simp
  with_reducible rfl
 rotate_left
 ·simp only [Act.put, List.setIfInBounds_toArray, List.set_cons_zero, List.set_cons_succ, i64_w, i32_w]
  rfl
 refine pure_ (i := 1) (N := some 20) (v := ?_) (a' := ?_) (up 34 2) rfl rfl (by kernel_rfl) (fun _ _ _ h => h) (Or.inl ⟨by rfl, ?_⟩) ?_ ?_
 rotate_left
 ·intro w'
  go_simp
  with_reducible rfl
 rotate_left
 ·simp only [Act.put, List.setIfInBounds_toArray, List.set_cons_zero, List.set_cons_succ, i64_w, i32_w]
  rfl
 refine pure_ (i := 2) (N := some 21) (v := ?_) (a' := ?_) (up 34 3) rfl rfl (by kernel_rfl) (fun _ _ _ h => h) (Or.inl ⟨by rfl, ?_⟩) ?_ ?_
 rotate_left
 ·intro w'
  go_simp
  with_reducible rfl
 rotate_left
 ·simp only [Act.put, List.setIfInBounds_toArray, List.set_cons_zero, List.set_cons_succ, i64_w, i32_w]
  rfl
 refine pure_ (i := 3) (N := some 22) (v := ?_) (a' := ?_) (up 34 4) rfl rfl (by kernel_rfl) (fun _ _ _ h => h) (Or.inl ⟨by rfl, ?_⟩) ?_ ?_
 rotate_left
 ·intro w'
  go_simp
  with_reducible rfl
 rotate_left
 ·simp only [Act.put, List.setIfInBounds_toArray, List.set_cons_zero, List.set_cons_succ, i64_w, i32_w]
  rfl
 refine pure_ (i := 4) (N := some 23) (v := ?_) (a' := ?_) (up 34 5) rfl rfl (by kernel_rfl) (fun _ _ _ h => h) (Or.inl ⟨by rfl, ?_⟩) ?_ ?_
 rotate_left
 ·intro w'
  go_simp
  with_reducible rfl
 rotate_left
 ·simp only [Act.put, List.setIfInBounds_toArray, List.set_cons_zero, List.set_cons_succ, i64_w, i32_w]
  rfl
 refine pure_ (i := 5) (N := some 24) (v := ?_) (a' := ?_) (up 34 6) rfl rfl (by kernel_rfl) (fun _ _ _ h => h) (Or.inl ⟨by rfl, ?_⟩) ?_ ?_
 rotate_left
 ·intro w'
  go_simp
  with_reducible rfl
 rotate_left
 ·simp only [Act.put, List.setIfInBounds_toArray, List.set_cons_zero, List.set_cons_succ, i64_w, i32_w]
  rfl
 refine take_ (i := 6) (N := some 25) (v := .int .u64 a2) (a' := ?_) (up 34 7) rfl rfl (by kernel_rfl) (fun _ _ _ h => h) (own_yield1 (by rfl) (x := .tmp 24) rfl (by rfl) (.head) huu (by rfl) (by rfl)) hHeld ?_ ?_
 rotate_left
 ·simp only [Act.put, List.setIfInBounds_toArray, List.set_cons_zero, List.set_cons_succ, i64_w, i32_w]
  rfl
 refine pure_ (i := 7) (N := some 26) (v := ?_) (a' := ?_) (up 34 8) rfl rfl (by kernel_rfl) (fun _ _ _ h => h) (Or.inl ⟨by rfl, ?_⟩) ?_ ?_
 rotate_left
 ·intro w'
  go_simp
  with_reducible rfl
 rotate_left
 ·simp only [Act.put, List.setIfInBounds_toArray, List.set_cons_zero, List.set_cons_succ, i64_w, i32_w]
  rfl
 refine pure_ (i := 8) (N := some 27) (v := ?_) (a' := ?_) (up 34 9) rfl rfl (by kernel_rfl) (fun _ _ _ h => h) (Or.inl ⟨by rfl, ?_⟩) ?_ ?_
 rotate_left
 ·intro w'
  go_simp
  with_reducible rfl
 rotate_left
 ·simp only [Act.put, List.setIfInBounds_toArray, List.set_cons_zero, List.set_cons_succ, i64_w, i32_w]
  rfl
 refine pure_ (i := 9) (N := some 28) (v := ?_) (a' := ?_) (up 34 10) rfl rfl (by kernel_rfl) (fun _ _ _ h => h) (Or.inl ⟨by rfl, ?_⟩) ?_ ?_
 rotate_left
 ·intro w'
  go_simp
  with_reducible rfl
 rotate_left
 ·simp only [Act.put, List.setIfInBounds_toArray, List.set_cons_zero, List.set_cons_succ, i64_w, i32_w]
  rfl
 refine pure_ (i := 10) (N := some 29) (v := ?_) (a' := ?_) (up 34 11) rfl rfl (by kernel_rfl) (fun _ _ _ h => h) (Or.inl ⟨by rfl, ?_⟩) ?_ ?_
 rotate_left
 ·intro w'
  go_simp
  with_reducible rfl
 rotate_left
 ·simp only [Act.put, List.setIfInBounds_toArray, List.set_cons_zero, List.set_cons_succ, i64_w, i32_w]
  rfl
 refine take_ (i := 11) (N := some 30) (v := .int .u64 b2) (a' := ?_) (up 34 12) rfl rfl (by kernel_rfl) (fun _ _ _ h => h) (own_yield1 (by rfl) (x := .tmp 29) rfl (by rfl) (.head) huu (by rfl) (by rfl)) hHeld ?_ ?_
 rotate_left
 ·simp only [Act.put, List.setIfInBounds_toArray, List.set_cons_zero, List.set_cons_succ, i64_w, i32_w]
  rfl
 refine pure_ (i := 12) (N := some 31) (v := ?_) (a' := ?_) (up 34 13) rfl rfl (by kernel_rfl) (fun _ _ _ h => h) (Or.inl ⟨by rfl, ?_⟩) ?_ ?_
 rotate_left
 ·intro w'
  go_simp
  with_reducible rfl
 rotate_left
 ·simp only [Act.put, List.setIfInBounds_toArray, List.set_cons_zero, List.set_cons_succ, i64_w, i32_w]
  rfl
 refine pure_ (i := 13) (N := some 32) (v := ?_) (a' := ?_) (up 34 14) rfl rfl (by kernel_rfl) (fun _ _ _ h => h) (Or.inl ⟨by rfl, ?_⟩) ?_ ?_
 rotate_left
 ·intro w'
  go_simp
  with_reducible rfl
 rotate_left
 ·simp only [Act.put, List.setIfInBounds_toArray, List.set_cons_zero, List.set_cons_succ, i64_w, i32_w]
  rfl
 refine pure_ (i := 14) (N := some 33) (v := ?_) (a' := ?_) (up 34 15) rfl rfl (by kernel_rfl) (fun _ _ _ h => h) (Or.inl ⟨by rfl, ?_⟩) ?_ ?_
 rotate_left
 ·intro w'
  go_simp
  with_reducible rfl
 rotate_left
 ·simp only [Act.put, List.setIfInBounds_toArray, List.set_cons_zero, List.set_cons_succ, i64_w, i32_w]
  rfl
 refine pure_ (i := 15) (N := some 34) (v := ?_) (a' := ?_) (up 34 16) rfl rfl (by kernel_rfl) (fun _ _ _ h => h) (Or.inl ⟨by rfl, ?_⟩) ?_ ?_
 rotate_left
 ·intro w'
  go_simp
  with_reducible rfl
 rotate_left
 ·simp only [Act.put, List.setIfInBounds_toArray, List.set_cons_zero, List.set_cons_succ, i64_w, i32_w]
  rfl
 refine pure_ (i := 16) (N := some 35) (v := ?_) (a' := ?_) (up 34 17) rfl rfl (by kernel_rfl) (fun _ _ _ h => h) (Or.inl ⟨by rfl, ?_⟩) ?_ ?_
 rotate_left
 ·intro w'
  go_simp
  with_reducible rfl
 rotate_left
 ·simp only [Act.put, List.setIfInBounds_toArray, List.set_cons_zero, List.set_cons_succ, i64_w, i32_w]
  rfl
 refine pure_ (i := 17) (N := some 36) (v := ?_) (a' := ?_) (up 34 18) rfl rfl (by kernel_rfl) (fun _ _ _ h => h) (Or.inl ⟨by rfl, ?_⟩) ?_ ?_
 rotate_left
 ·intro w'
  go_simp
  with_reducible rfl
 rotate_left
 ·simp only [Act.put, List.setIfInBounds_toArray, List.set_cons_zero, List.set_cons_succ, i64_w, i32_w]
  rfl
 refine take_ (i := 18) (N := some 37) (v := .int .u64 b3) (a' := ?_) (up 34 19) rfl rfl (by kernel_rfl) (fun _ _ _ h => h) (own_yield1 (by rfl) (x := .tmp 36) rfl (by rfl) (.head) huu (by rfl) (by rfl)) hHeld ?_ ?_
 rotate_left
 ·simp only [Act.put, List.setIfInBounds_toArray, List.set_cons_zero, List.set_cons_succ, i64_w, i32_w]
  rfl
 refine pure_ (i := 19) (N := some 38) (v := ?_) (a' := ?_) (up 34 20) rfl rfl (by kernel_rfl) (fun _ _ _ h => h) (Or.inl ⟨by rfl, ?_⟩) ?_ ?_
 rotate_left
 ·intro w'
  go_simp
  with_reducible rfl
 rotate_left
 ·simp only [Act.put, List.setIfInBounds_toArray, List.set_cons_zero, List.set_cons_succ, i64_w, i32_w]
  rfl
 refine pure_ (i := 20) (N := some 39) (v := ?_) (a' := ?_) (up 34 21) rfl rfl (by kernel_rfl) (fun _ _ _ h => h) (Or.inl ⟨by rfl, ?_⟩) ?_ ?_
 rotate_left
 ·intro w'
  go_simp
  with_reducible rfl
 rotate_left
 ·simp only [Act.put, List.setIfInBounds_toArray, List.set_cons_zero, List.set_cons_succ, i64_w, i32_w]
  rfl
 refine pure_ (i := 21) (N := some 40) (v := ?_) (a' := ?_) (up 34 22) rfl rfl (by kernel_rfl) (fun _ _ _ h => h) (Or.inl ⟨by rfl, ?_⟩) ?_ ?_
 rotate_left
 ·intro w'
  go_simp
  with_reducible rfl
 rotate_left
 ·simp only [Act.put, List.setIfInBounds_toArray, List.set_cons_zero, List.set_cons_succ, i64_w, i32_w]
  rfl
 refine pure_ (i := 22) (N := some 41) (v := ?_) (a' := ?_) (up 34 23) rfl rfl (by kernel_rfl) (fun _ _ _ h => h) (Or.inl ⟨by rfl, ?_⟩) ?_ ?_
 rotate_left
 ·intro w'
  go_simp
  with_reducible rfl
 rotate_left
 ·simp only [Act.put, List.setIfInBounds_toArray, List.set_cons_zero, List.set_cons_succ, i64_w, i32_w]
  rfl
 refine take_ (i := 23) (N := some 42) (v := .int .u64 a3) (a' := ?_) (up 34 24) rfl rfl (by kernel_rfl) (fun _ _ _ h => h) (own_yield1 (by rfl) (x := .tmp 41) rfl (by rfl) (.head) huu (by rfl) (by rfl)) hHeld ?_ ?_
 rotate_left
 ·simp only [Act.put, List.setIfInBounds_toArray, List.set_cons_zero, List.set_cons_succ, i64_w, i32_w]
  rfl
 refine pure_ (i := 24) (N := some 43) (v := ?_) (a' := ?_) (up 34 25) rfl rfl (by kernel_rfl) (fun _ _ _ h => h) (Or.inl ⟨by rfl, ?_⟩) ?_ ?_
 rotate_left
 ·intro w'
  go_simp
  with_reducible rfl
 rotate_left
 ·simp only [Act.put, List.setIfInBounds_toArray, List.set_cons_zero, List.set_cons_succ, i64_w, i32_w]
  rfl
 refine pure_ (i := 25) (N := some 44) (v := ?_) (a' := ?_) (up 34 26) rfl rfl (by kernel_rfl) (fun _ _ _ h => h) (Or.inl ⟨by rfl, ?_⟩) ?_ ?_
 rotate_left
 ·intro w'
  go_simp
  with_reducible rfl
 rotate_left
 ·simp only [Act.put, List.setIfInBounds_toArray, List.set_cons_zero, List.set_cons_succ, i64_w, i32_w]
  rfl
 refine pure_ (i := 26) (N := some 45) (v := ?_) (a' := ?_) (up 34 27) rfl rfl (by kernel_rfl) (fun _ _ _ h => h) (Or.inl ⟨by rfl, ?_⟩) ?_ ?_
 rotate_left
 ·intro w'
  go_simp
  with_reducible rfl
 rotate_left
 ·simp only [Act.put, List.setIfInBounds_toArray, List.set_cons_zero, List.set_cons_succ, i64_w, i32_w]
  rfl
 refine pure_ (i := 27) (N := some 46) (v := ?_) (a' := ?_) (up 34 28) rfl rfl (by kernel_rfl) (fun _ _ _ h => h) (Or.inl ⟨by rfl, ?_⟩) ?_ ?_
 rotate_left
 ·intro w'
  go_simp
  with_reducible rfl
 rotate_left
 ·simp only [Act.put, List.setIfInBounds_toArray, List.set_cons_zero, List.set_cons_succ, i64_w, i32_w]
  rfl
 refine pure_ (i := 28) (N := some 47) (v := ?_) (a' := ?_) (up 34 29) rfl rfl (by kernel_rfl) (fun _ _ _ h => h) (Or.inl ⟨by rfl, ?_⟩) ?_ ?_
 rotate_left
 ·intro w'
  go_simp
  with_reducible rfl
 rotate_left
 ·simp only [Act.put, List.setIfInBounds_toArray, List.set_cons_zero, List.set_cons_succ, i64_w, i32_w]
  rfl
 refine last_ (i := 29) (N := none) (up 34 30) rfl rfl (by kernel_rfl) (by decide) (fun K hK => ?_)
 refine own_store_k HO.out (by rfl) rfl (ty := 22) (x := .tmp 47) (y := .tmp 32) (v := .int .u64 (mx a2 (IntKind.u64.wrap (b2 + 1)))) (cs' := #[.int .u64 a0, .int .u64 a1, .int .u64 (mx a2 (IntKind.u64.wrap (b2 + 1))), .int .u64 a3, .int .i64 a4, .int .i64 a5, .int .u64 b0, .int .u64 b1, .int .u64 b2, .int .u64 b3, .int .i64 b4, .int .i64 b5, .bool nn]) rfl (by rfl) (by rfl) (.head) (by kernel_rfl) (by rfl) (by first | decide | (simp; done)) (by rfl) ?_
 intro wc hO_
 clear HO; have HO := Aside0.mk hO_; clear hO_
 refine hK.out _ _ ?_
 clear hK K
 refine pure_ (i := 30) (N := some 48) (v := ?_) (a' := ?_) (up 34 31) rfl rfl (by kernel_rfl) (fun _ _ _ h => h) (Or.inl ⟨by rfl, ?_⟩) ?_ ?_
 rotate_left
 ·intro w'
  go_simp
  with_reducible rfl
 rotate_left
 ·simp only [Act.put, List.setIfInBounds_toArray, List.set_cons_zero, List.set_cons_succ, i64_w, i32_w]
  rfl
 refine pure_ (i := 31) (N := some 49) (v := ?_) (a' := ?_) (up 34 32) rfl rfl (by kernel_rfl) (fun _ _ _ h => h) (Or.inl ⟨by rfl, ?_⟩) ?_ ?_
 rotate_left
 ·intro w'
  go_simp
  with_reducible rfl
 rotate_left
 ·simp only [Act.put, List.setIfInBounds_toArray, List.set_cons_zero, List.set_cons_succ, i64_w, i32_w]
  rfl
 refine pure_ (i := 32) (N := some 50) (v := ?_) (a' := ?_) (up 34 33) rfl rfl (by kernel_rfl) (fun _ _ _ h => h) (Or.inl ⟨by rfl, ?_⟩) ?_ ?_
 rotate_left
 ·intro w'
  go_simp
  with_reducible rfl
 rotate_left
 ·simp only [Act.put, List.setIfInBounds_toArray, List.set_cons_zero, List.set_cons_succ, i64_w, i32_w]
  rfl
 refine last_ (i := 33) (N := none) (up 34 34) rfl rfl (by kernel_rfl) (by decide) (fun K hK => ?_)
 refine own_store_k HO.out (by rfl) rfl (ty := 22) (x := .tmp 50) (y := .tmp 44) (v := .int .u64 (mn b3 (IntKind.u64.wrap (a3 - 1)))) (cs' := #[.int .u64 a0, .int .u64 a1, .int .u64 (mx a2 (IntKind.u64.wrap (b2 + 1))), .int .u64 a3, .int .i64 a4, .int .i64 a5, .int .u64 b0, .int .u64 b1, .int .u64 b2, .int .u64 (mn b3 (IntKind.u64.wrap (a3 - 1))), .int .i64 b4, .int .i64 b5, .bool nn]) rfl (by rfl) (by rfl) (.head) (by kernel_rfl) (by rfl) (by first | decide | (simp; done)) (by rfl) ?_
 intro wc hO_
 clear HO; have HO := Aside0.mk hO_; clear hO_
 refine hK.out _ _ ?_
 clear hK K
 refine done_ (by kernel_rfl) ?_
 clear hHeld
 (first | go_end0 | refine bodyPost_ret (results_none rfl _ _ _) rfl ?_)
 exact ⟨rfl, HO.out⟩
def nw_aboveSigned (p : NwP) : Option NwP := match p with
 | ⟨a0, a1, a2, a3, a4, a5, b0, b1, b2, b3, b4, b5, nn⟩ => if (b4 == 9223372036854775807) = true then some ⟨a0, a1, a2, a3, a4, a5, b0, b1, b2, b3, b4, b5, true⟩ else if (a5 == (-9223372036854775808)) = true then some ⟨a0, a1, a2, a3, a4, a5, b0, b1, b2, b3, b4, b5, true⟩ else some ⟨a0, a1, a2, a3, mx a4 (wrap64 (b4 + 1)), a5, b0, b1, b2, b3, b4, mn b5 (wrap64 (a5 - 1)), nn⟩
set_option maxHeartbeats 8000000 in
set_option maxRecDepth 100000 in
theorem nw_aboveSigned_ok : NwOk 91 nw_aboveSigned := by
 intro p q gp w0 w L h hO
 obtain ⟨a0, a1, a2, a3, a4, a5, b0, b1, b2, b3, b4, b5, nn⟩ := p
 have HO : Aside0 (Own w0 w ((gp, .cells #[.int .u64 a0, .int .u64 a1, .int .u64 a2, .int .u64 a3, .int .i64 a4, .int .i64 a5, .int .u64 b0, .int .u64 b1, .int .u64 b2, .int .u64 b3, .int .i64 b4, .int .i64 b5, .bool nn] 87 (0, 0)) :: L)) := ⟨hO⟩
 clear hO
 have hup := Try.underlying87
 have hun := Try.underlying36
 have hut := Try.underlying34
 have huu := Try.underlying22
 have hui := Try.underlying2
 have hub := Try.underlying4
 have hc1 : World.cell? _ ⟨gp, 10, none⟩ = some (.int .i64 b4) := (HO.out.cell .head 10).trans rfl
 have hc2 : World.cell? _ ⟨gp, 5, none⟩ = some (.int .i64 a5) := (HO.out.cell .head 5).trans rfl
 unfold nw_aboveSigned at h
 dsimp only at h
 by_cases c1 : (b4 == 9223372036854775807) = true
 ·rw [if_pos c1] at h
  obtain rfl := Option.some.inj h
  clear h
  go_enter Try.func91, Try.ntmps91
  go_wp2_with ((with_reducible refine gate_store (p := 18) rfl ?_); refine own_store HO.out rfl (ty := 4) (x := .tmp 18) (y := .const (.bool true)) (v := .bool true) (cs' := #[.int .u64 a0, .int .u64 a1, .int .u64 a2, .int .u64 a3, .int .i64 a4, .int .i64 a5, .int .u64 b0, .int .u64 b1, .int .u64 b2, .int .u64 b3, .int .i64 b4, .int .i64 b5, .bool true]) rfl (by rfl) (by rfl) (by (repeat (first | exact .head | apply Ext.tail))) (by kernel_rfl) (by rfl) (by first | decide | (simp; done)) (by rfl) ?_; intro wc hO_; clear HO; have HO := Aside0.mk hO_; clear hO_)
  (first | go_end0 | refine bodyPost_ret (results_none rfl _ _ _) rfl ?_)
  exact ⟨rfl, HO.out⟩
 rw [if_neg c1] at h
 have c1 : (b4 == 9223372036854775807) = false := by simpa using c1
 by_cases c2 : (a5 == (-9223372036854775808)) = true
 ·rw [if_pos c2] at h
  obtain rfl := Option.some.inj h
  clear h
  go_enter Try.func91, Try.ntmps91
  go_wp2_with ((with_reducible refine gate_store (p := 18) rfl ?_); refine own_store HO.out rfl (ty := 4) (x := .tmp 18) (y := .const (.bool true)) (v := .bool true) (cs' := #[.int .u64 a0, .int .u64 a1, .int .u64 a2, .int .u64 a3, .int .i64 a4, .int .i64 a5, .int .u64 b0, .int .u64 b1, .int .u64 b2, .int .u64 b3, .int .i64 b4, .int .i64 b5, .bool true]) rfl (by rfl) (by rfl) (by (repeat (first | exact .head | apply Ext.tail))) (by kernel_rfl) (by rfl) (by first | decide | (simp; done)) (by rfl) ?_; intro wc hO_; clear HO; have HO := Aside0.mk hO_; clear hO_)
  (first | go_end0 | refine bodyPost_ret (results_none rfl _ _ _) rfl ?_)
  exact ⟨rfl, HO.out⟩
 rw [if_neg c2] at h
 have c2 : (a5 == (-9223372036854775808)) = false := by simpa using c2
 obtain rfl := Option.some.inj h
 clear h
 go_enter Try.func91, Try.ntmps91
 go_wp2
 refine start_ (n := 34) (S := fun W => Own w0 W ((gp, .cells #[.int .u64 a0, .int .u64 a1, .int .u64 a2, .int .u64 a3, .int .i64 a4, .int .i64 a5, .int .u64 b0, .int .u64 b1, .int .u64 b2, .int .u64 b3, .int .i64 b4, .int .i64 b5, .bool nn] 87 (0, 0)) :: L)) (ds := [29, 33]) #[false, false, false, false, false, false, false, false, false, false, false, false, false, false, false, false, false, false, false, false, false, false, false, false, false, false, false, false, false, false, false, false, false, false] (by kernel_rfl) rfl rfl (Own.drew (HO.out)) (fun hHeld => ?_)
 have HO_ := Aside0.mk HO.out.drew
 clear HO
 have HO := HO_
 clear HO_
 generalize World.drew _ = wr at HO hHeld ⊢
 refine pure_ (i := 0) (N := some 19) (v := ?_) (a' := ?_) (up 34 1) rfl rfl (by kernel_rfl) (fun _ _ _ h => h) (Or.inl ⟨by rfl, ?_⟩) ?_ ?_
 rotate_left
 ·intro w'
  go_simp
  with_reducible rfl
 rotate_left
 ·simp only [Act.put, List.setIfInBounds_toArray, List.set_cons_zero, List.set_cons_succ, i64_w, i32_w]
  rfl
 refine pure_ (i := 1) (N := some 20) (v := ?_) (a' := ?_) (up 34 2) rfl rfl (by kernel_rfl) (fun _ _ _ h => h) (Or.inl ⟨by rfl, ?_⟩) ?_ ?_
 rotate_left
 ·intro w'
  go_simp
  with_reducible rfl
 rotate_left
 ·simp only [Act.put, List.setIfInBounds_toArray, List.set_cons_zero, List.set_cons_succ, i64_w, i32_w]
  rfl
 refine pure_ (i := 2) (N := some 21) (v := ?_) (a' := ?_) (up 34 3) rfl rfl (by kernel_rfl) (fun _ _ _ h => h) (Or.inl ⟨by rfl, ?_⟩) ?_ ?_
 rotate_left
 ·intro w'
  go_simp
  with_reducible rfl
 rotate_left
 ·simp only [Act.put, List.setIfInBounds_toArray, List.set_cons_zero, List.set_cons_succ, i64_w, i32_w]
  rfl
 refine pure_ (i := 3) (N := some 22) (v := ?_) (a' := ?_) (up 34 4) rfl rfl (by kernel_rfl) (fun _ _ _ h => h) (Or.inl ⟨by rfl, ?_⟩) ?_ ?_
 rotate_left
 ·intro w'
  go_simp
  with_reducible rfl
 rotate_left
 ·simp only [Act.put, List.setIfInBounds_toArray, List.set_cons_zero, List.set_cons_succ, i64_w, i32_w]
  rfl
 refine pure_ (i := 4) (N := some 23) (v := ?_) (a' := ?_) (up 34 5) rfl rfl (by kernel_rfl) (fun _ _ _ h => h) (Or.inl ⟨by rfl, ?_⟩) ?_ ?_
 rotate_left
 ·intro w'
  go_simp
  with_reducible rfl
 rotate_left
 ·simp only [Act.put, List.setIfInBounds_toArray, List.set_cons_zero, List.set_cons_succ, i64_w, i32_w]
  rfl
 refine pure_ (i := 5) (N := some 24) (v := ?_) (a' := ?_) (up 34 6) rfl rfl (by kernel_rfl) (fun _ _ _ h => h) (Or.inl ⟨by rfl, ?_⟩) ?_ ?_
 rotate_left
 ·intro w'
  go_simp
  with_reducible rfl
 rotate_left
 ·simp only [Act.put, List.setIfInBounds_toArray, List.set_cons_zero, List.set_cons_succ, i64_w, i32_w]
  rfl
 refine take_ (i := 6) (N := some 25) (v := .int .i64 a4) (a' := ?_) (up 34 7) rfl rfl (by kernel_rfl) (fun _ _ _ h => h) (own_yield1 (by rfl) (x := .tmp 24) rfl (by rfl) (.head) hui (by rfl) (by rfl)) hHeld ?_ ?_
 rotate_left
 ·simp only [Act.put, List.setIfInBounds_toArray, List.set_cons_zero, List.set_cons_succ, i64_w, i32_w]
  rfl
 refine pure_ (i := 7) (N := some 26) (v := ?_) (a' := ?_) (up 34 8) rfl rfl (by kernel_rfl) (fun _ _ _ h => h) (Or.inl ⟨by rfl, ?_⟩) ?_ ?_
 rotate_left
 ·intro w'
  go_simp
  with_reducible rfl
 rotate_left
 ·simp only [Act.put, List.setIfInBounds_toArray, List.set_cons_zero, List.set_cons_succ, i64_w, i32_w]
  rfl
 refine pure_ (i := 8) (N := some 27) (v := ?_) (a' := ?_) (up 34 9) rfl rfl (by kernel_rfl) (fun _ _ _ h => h) (Or.inl ⟨by rfl, ?_⟩) ?_ ?_
 rotate_left
 ·intro w'
  go_simp
  with_reducible rfl
 rotate_left
 ·simp only [Act.put, List.setIfInBounds_toArray, List.set_cons_zero, List.set_cons_succ, i64_w, i32_w]
  rfl
 refine pure_ (i := 9) (N := some 28) (v := ?_) (a' := ?_) (up 34 10) rfl rfl (by kernel_rfl) (fun _ _ _ h => h) (Or.inl ⟨by rfl, ?_⟩) ?_ ?_
 rotate_left
 ·intro w'
  go_simp
  with_reducible rfl
 rotate_left
 ·simp only [Act.put, List.setIfInBounds_toArray, List.set_cons_zero, List.set_cons_succ, i64_w, i32_w]
  rfl
 refine pure_ (i := 10) (N := some 29) (v := ?_) (a' := ?_) (up 34 11) rfl rfl (by kernel_rfl) (fun _ _ _ h => h) (Or.inl ⟨by rfl, ?_⟩) ?_ ?_
 rotate_left
 ·intro w'
  go_simp
  with_reducible rfl
 rotate_left
 ·simp only [Act.put, List.setIfInBounds_toArray, List.set_cons_zero, List.set_cons_succ, i64_w, i32_w]
  rfl
 refine take_ (i := 11) (N := some 30) (v := .int .i64 b4) (a' := ?_) (up 34 12) rfl rfl (by kernel_rfl) (fun _ _ _ h => h) (own_yield1 (by rfl) (x := .tmp 29) rfl (by rfl) (.head) hui (by rfl) (by rfl)) hHeld ?_ ?_
 rotate_left
 ·simp only [Act.put, List.setIfInBounds_toArray, List.set_cons_zero, List.set_cons_succ, i64_w, i32_w]
  rfl
 refine pure_ (i := 12) (N := some 31) (v := ?_) (a' := ?_) (up 34 13) rfl rfl (by kernel_rfl) (fun _ _ _ h => h) (Or.inl ⟨by rfl, ?_⟩) ?_ ?_
 rotate_left
 ·intro w'
  go_simp
  with_reducible rfl
 rotate_left
 ·simp only [Act.put, List.setIfInBounds_toArray, List.set_cons_zero, List.set_cons_succ, i64_w, i32_w]
  rfl
 refine pure_ (i := 13) (N := some 32) (v := ?_) (a' := ?_) (up 34 14) rfl rfl (by kernel_rfl) (fun _ _ _ h => h) (Or.inl ⟨by rfl, ?_⟩) ?_ ?_
 rotate_left
 ·intro w'
  go_simp
  with_reducible rfl
 rotate_left
 ·simp only [Act.put, List.setIfInBounds_toArray, List.set_cons_zero, List.set_cons_succ, i64_w, i32_w]
  rfl
 refine pure_ (i := 14) (N := some 33) (v := ?_) (a' := ?_) (up 34 15) rfl rfl (by kernel_rfl) (fun _ _ _ h => h) (Or.inl ⟨by rfl, ?_⟩) ?_ ?_
 rotate_left
 ·intro w'
  go_simp
  with_reducible rfl
 rotate_left
 ·simp only [Act.put, List.setIfInBounds_toArray, List.set_cons_zero, List.set_cons_succ, i64_w, i32_w]
  rfl
 refine pure_ (i := 15) (N := some 34) (v := ?_) (a' := ?_) (up 34 16) rfl rfl (by kernel_rfl) (fun _ _ _ h => h) (Or.inl ⟨by rfl, ?_⟩) ?_ ?_
 rotate_left
 ·intro w'
  go_simp
  with_reducible rfl
 rotate_left
 ·simp only [Act.put, List.setIfInBounds_toArray, List.set_cons_zero, List.set_cons_succ, i64_w, i32_w]
  rfl
 refine pure_ (i := 16) (N := some 35) (v := ?_) (a' := ?_) (up 34 17) rfl rfl (by kernel_rfl) (fun _ _ _ h => h) (Or.inl ⟨by rfl, ?_⟩) ?_ ?_
 rotate_left
 ·intro w'
  go_simp
  with_reducible rfl
 rotate_left
 ·simp only [Act.put, List.setIfInBounds_toArray, List.set_cons_zero, List.set_cons_succ, i64_w, i32_w]
  rfl
 refine pure_ (i := 17) (N := some 36) (v := ?_) (a' := ?_) (up 34 18) rfl rfl (by kernel_rfl) (fun _ _ _ h => h) (Or.inl ⟨by rfl, ?_⟩) ?_ ?_
 rotate_left
 ·intro w'
  go_simp
  with_reducible rfl
 rotate_left
 ·simp only [Act.put, List.setIfInBounds_toArray, List.set_cons_zero, List.set_cons_succ, i64_w, i32_w]
  rfl
 refine take_ (i := 18) (N := some 37) (v := .int .i64 b5) (a' := ?_) (up 34 19) rfl rfl (by kernel_rfl) (fun _ _ _ h => h) (own_yield1 (by rfl) (x := .tmp 36) rfl (by rfl) (.head) hui (by rfl) (by rfl)) hHeld ?_ ?_
 rotate_left
 ·simp only [Act.put, List.setIfInBounds_toArray, List.set_cons_zero, List.set_cons_succ, i64_w, i32_w]
  rfl
 refine pure_ (i := 19) (N := some 38) (v := ?_) (a' := ?_) (up 34 20) rfl rfl (by kernel_rfl) (fun _ _ _ h => h) (Or.inl ⟨by rfl, ?_⟩) ?_ ?_
 rotate_left
 ·intro w'
  go_simp
  with_reducible rfl
 rotate_left
 ·simp only [Act.put, List.setIfInBounds_toArray, List.set_cons_zero, List.set_cons_succ, i64_w, i32_w]
  rfl
 refine pure_ (i := 20) (N := some 39) (v := ?_) (a' := ?_) (up 34 21) rfl rfl (by kernel_rfl) (fun _ _ _ h => h) (Or.inl ⟨by rfl, ?_⟩) ?_ ?_
 rotate_left
 ·intro w'
  go_simp
  with_reducible rfl
 rotate_left
 ·simp only [Act.put, List.setIfInBounds_toArray, List.set_cons_zero, List.set_cons_succ, i64_w, i32_w]
  rfl
 refine pure_ (i := 21) (N := some 40) (v := ?_) (a' := ?_) (up 34 22) rfl rfl (by kernel_rfl) (fun _ _ _ h => h) (Or.inl ⟨by rfl, ?_⟩) ?_ ?_
 rotate_left
 ·intro w'
  go_simp
  with_reducible rfl
 rotate_left
 ·simp only [Act.put, List.setIfInBounds_toArray, List.set_cons_zero, List.set_cons_succ, i64_w, i32_w]
  rfl
 refine pure_ (i := 22) (N := some 41) (v := ?_) (a' := ?_) (up 34 23) rfl rfl (by kernel_rfl) (fun _ _ _ h => h) (Or.inl ⟨by rfl, ?_⟩) ?_ ?_
 rotate_left
 ·intro w'
  go_simp
  with_reducible rfl
 rotate_left
 ·simp only [Act.put, List.setIfInBounds_toArray, List.set_cons_zero, List.set_cons_succ, i64_w, i32_w]
  rfl
 refine take_ (i := 23) (N := some 42) (v := .int .i64 a5) (a' := ?_) (up 34 24) rfl rfl (by kernel_rfl) (fun _ _ _ h => h) (own_yield1 (by rfl) (x := .tmp 41) rfl (by rfl) (.head) hui (by rfl) (by rfl)) hHeld ?_ ?_
 rotate_left
 ·simp only [Act.put, List.setIfInBounds_toArray, List.set_cons_zero, List.set_cons_succ, i64_w, i32_w]
  rfl
 refine pure_ (i := 24) (N := some 43) (v := ?_) (a' := ?_) (up 34 25) rfl rfl (by kernel_rfl) (fun _ _ _ h => h) (Or.inl ⟨by rfl, ?_⟩) ?_ ?_
 rotate_left
 ·intro w'
  go_simp
  with_reducible rfl
 rotate_left
 ·simp only [Act.put, List.setIfInBounds_toArray, List.set_cons_zero, List.set_cons_succ, i64_w, i32_w]
  rfl
 refine pure_ (i := 25) (N := some 44) (v := ?_) (a' := ?_) (up 34 26) rfl rfl (by kernel_rfl) (fun _ _ _ h => h) (Or.inl ⟨by rfl, ?_⟩) ?_ ?_
 rotate_left
 ·intro w'
  go_simp
  with_reducible rfl
 rotate_left
 ·simp only [Act.put, List.setIfInBounds_toArray, List.set_cons_zero, List.set_cons_succ, i64_w, i32_w]
  rfl
 refine pure_ (i := 26) (N := some 45) (v := ?_) (a' := ?_) (up 34 27) rfl rfl (by kernel_rfl) (fun _ _ _ h => h) (Or.inl ⟨by rfl, ?_⟩) ?_ ?_
 rotate_left
 ·intro w'
  go_simp
  with_reducible rfl
 rotate_left
 ·simp only [Act.put, List.setIfInBounds_toArray, List.set_cons_zero, List.set_cons_succ, i64_w, i32_w]
  rfl
 refine pure_ (i := 27) (N := some 46) (v := ?_) (a' := ?_) (up 34 28) rfl rfl (by kernel_rfl) (fun _ _ _ h => h) (Or.inl ⟨by rfl, ?_⟩) ?_ ?_
 rotate_left
 ·intro w'
  go_simp
  with_reducible rfl
 rotate_left
 ·simp only [Act.put, List.setIfInBounds_toArray, List.set_cons_zero, List.set_cons_succ, i64_w, i32_w]
  rfl
 refine pure_ (i := 28) (N := some 47) (v := ?_) (a' := ?_) (up 34 29) rfl rfl (by kernel_rfl) (fun _ _ _ h => h) (Or.inl ⟨by rfl, ?_⟩) ?_ ?_
 rotate_left
 ·intro w'
  go_simp
  with_reducible rfl
 rotate_left
 ·simp only [Act.put, List.setIfInBounds_toArray, List.set_cons_zero, List.set_cons_succ, i64_w, i32_w]
  rfl
 refine last_ (i := 29) (N := none) (up 34 30) rfl rfl (by kernel_rfl) (by decide) (fun K hK => ?_)
 refine own_store_k HO.out (by rfl) rfl (ty := 2) (x := .tmp 47) (y := .tmp 32) (v := .int .i64 (mx a4 (wrap64 (b4 + 1)))) (cs' := #[.int .u64 a0, .int .u64 a1, .int .u64 a2, .int .u64 a3, .int .i64 (mx a4 (wrap64 (b4 + 1))), .int .i64 a5, .int .u64 b0, .int .u64 b1, .int .u64 b2, .int .u64 b3, .int .i64 b4, .int .i64 b5, .bool nn]) rfl (by rfl) (by rfl) (.head) (by kernel_rfl) (by rfl) (by first | decide | (simp; done)) (by rfl) ?_
 intro wc hO_
 clear HO; have HO := Aside0.mk hO_; clear hO_
 refine hK.out _ _ ?_
 clear hK K
 refine pure_ (i := 30) (N := some 48) (v := ?_) (a' := ?_) (up 34 31) rfl rfl (by kernel_rfl) (fun _ _ _ h => h) (Or.inl ⟨by rfl, ?_⟩) ?_ ?_
 rotate_left
 ·intro w'
  go_simp
  with_reducible rfl
 rotate_left
 ·simp only [Act.put, List.setIfInBounds_toArray, List.set_cons_zero, List.set_cons_succ, i64_w, i32_w]
  rfl
 refine pure_ (i := 31) (N := some 49) (v := ?_) (a' := ?_) (up 34 32) rfl rfl (by kernel_rfl) (fun _ _ _ h => h) (Or.inl ⟨by rfl, ?_⟩) ?_ ?_
 rotate_left
 ·intro w'
  go_simp
  with_reducible rfl
 rotate_left
 ·simp only [Act.put, List.setIfInBounds_toArray, List.set_cons_zero, List.set_cons_succ, i64_w, i32_w]
  rfl
 refine pure_ (i := 32) (N := some 50) (v := ?_) (a' := ?_) (up 34 33) rfl rfl (by kernel_rfl) (fun _ _ _ h => h) (Or.inl ⟨by rfl, ?_⟩) ?_ ?_
 rotate_left
 ·intro w'
  go_simp
  with_reducible rfl
 rotate_left
 ·simp only [Act.put, List.setIfInBounds_toArray, List.set_cons_zero, List.set_cons_succ, i64_w, i32_w]
  rfl
 refine last_ (i := 33) (N := none) (up 34 34) rfl rfl (by kernel_rfl) (by decide) (fun K hK => ?_)
 refine own_store_k HO.out (by rfl) rfl (ty := 2) (x := .tmp 50) (y := .tmp 44) (v := .int .i64 (mn b5 (wrap64 (a5 - 1)))) (cs' := #[.int .u64 a0, .int .u64 a1, .int .u64 a2, .int .u64 a3, .int .i64 (mx a4 (wrap64 (b4 + 1))), .int .i64 a5, .int .u64 b0, .int .u64 b1, .int .u64 b2, .int .u64 b3, .int .i64 b4, .int .i64 (mn b5 (wrap64 (a5 - 1))), .bool nn]) rfl (by rfl) (by rfl) (.head) (by kernel_rfl) (by rfl) (by first | decide | (simp; done)) (by rfl) ?_
 intro wc hO_
 clear HO; have HO := Aside0.mk hO_; clear hO_
 refine hK.out _ _ ?_
 clear hK K
 refine done_ (by kernel_rfl) ?_
 clear hHeld
 (first | go_end0 | refine bodyPost_ret (results_none rfl _ _ _) rfl ?_)
 exact ⟨rfl, HO.out⟩
def nw_notBelow (p : NwP) : Option NwP := match p with
 | ⟨a0, a1, a2, a3, a4, a5, b0, b1, b2, b3, b4, b5, nn⟩ => some ⟨a0, a1, mx a2 b2, a3, a4, a5, b0, b1, b2, mn b3 a3, b4, b5, nn⟩
set_option maxHeartbeats 8000000 in
set_option maxRecDepth 100000 in
theorem nw_notBelow_ok : NwOk 90 nw_notBelow := by
 intro p q gp w0 w L h hO
 obtain ⟨a0, a1, a2, a3, a4, a5, b0, b1, b2, b3, b4, b5, nn⟩ := p
 have HO : Aside0 (Own w0 w ((gp, .cells #[.int .u64 a0, .int .u64 a1, .int .u64 a2, .int .u64 a3, .int .i64 a4, .int .i64 a5, .int .u64 b0, .int .u64 b1, .int .u64 b2, .int .u64 b3, .int .i64 b4, .int .i64 b5, .bool nn] 87 (0, 0)) :: L)) := ⟨hO⟩
 clear hO
 have hup := Try.underlying87
 have hun := Try.underlying36
 have hut := Try.underlying34
 have huu := Try.underlying22
 have hui := Try.underlying2
 have hub := Try.underlying4
 unfold nw_notBelow at h
 obtain rfl := Option.some.inj h
 clear h
 go_enter Try.func90, Try.ntmps90
 try go_wp2
 refine start_ (n := 32) (S := fun W => Own w0 W ((gp, .cells #[.int .u64 a0, .int .u64 a1, .int .u64 a2, .int .u64 a3, .int .i64 a4, .int .i64 a5, .int .u64 b0, .int .u64 b1, .int .u64 b2, .int .u64 b3, .int .i64 b4, .int .i64 b5, .bool nn] 87 (0, 0)) :: L)) (ds := [27, 31]) #[false, false, false, false, false, false, false, false, false, false, false, false, false, false, false, false, false, false, false, false, false, false, false, false, false, false, false, false, false, false, false, false] (by kernel_rfl) rfl rfl (Own.drew (HO.out)) (fun hHeld => ?_)
 have HO_ := Aside0.mk HO.out.drew
 clear HO
 have HO := HO_
 clear HO_
 generalize World.drew _ = wr at HO hHeld ⊢
 refine pure_ (i := 0) (N := some 2) (v := ?_) (a' := ?_) (up 32 1) rfl rfl (by kernel_rfl) (fun _ _ _ h => h) (Or.inl ⟨by rfl, ?_⟩) ?_ ?_
 rotate_left
 ·intro w'
  go_simp
  with_reducible rfl
 rotate_left
 ·simp only [Act.put, List.setIfInBounds_toArray, List.set_cons_zero, List.set_cons_succ, i64_w, i32_w]
  rfl
 refine pure_ (i := 1) (N := some 3) (v := ?_) (a' := ?_) (up 32 2) rfl rfl (by kernel_rfl) (fun _ _ _ h => h) (Or.inl ⟨by rfl, ?_⟩) ?_ ?_
 rotate_left
 ·intro w'
  go_simp
  with_reducible rfl
 rotate_left
 ·simp only [Act.put, List.setIfInBounds_toArray, List.set_cons_zero, List.set_cons_succ, i64_w, i32_w]
  rfl
 refine pure_ (i := 2) (N := some 4) (v := ?_) (a' := ?_) (up 32 3) rfl rfl (by kernel_rfl) (fun _ _ _ h => h) (Or.inl ⟨by rfl, ?_⟩) ?_ ?_
 rotate_left
 ·intro w'
  go_simp
  with_reducible rfl
 rotate_left
 ·simp only [Act.put, List.setIfInBounds_toArray, List.set_cons_zero, List.set_cons_succ, i64_w, i32_w]
  rfl
 refine pure_ (i := 3) (N := some 5) (v := ?_) (a' := ?_) (up 32 4) rfl rfl (by kernel_rfl) (fun _ _ _ h => h) (Or.inl ⟨by rfl, ?_⟩) ?_ ?_
 rotate_left
 ·intro w'
  go_simp
  with_reducible rfl
 rotate_left
 ·simp only [Act.put, List.setIfInBounds_toArray, List.set_cons_zero, List.set_cons_succ, i64_w, i32_w]
  rfl
 refine pure_ (i := 4) (N := some 6) (v := ?_) (a' := ?_) (up 32 5) rfl rfl (by kernel_rfl) (fun _ _ _ h => h) (Or.inl ⟨by rfl, ?_⟩) ?_ ?_
 rotate_left
 ·intro w'
  go_simp
  with_reducible rfl
 rotate_left
 ·simp only [Act.put, List.setIfInBounds_toArray, List.set_cons_zero, List.set_cons_succ, i64_w, i32_w]
  rfl
 refine pure_ (i := 5) (N := some 7) (v := ?_) (a' := ?_) (up 32 6) rfl rfl (by kernel_rfl) (fun _ _ _ h => h) (Or.inl ⟨by rfl, ?_⟩) ?_ ?_
 rotate_left
 ·intro w'
  go_simp
  with_reducible rfl
 rotate_left
 ·simp only [Act.put, List.setIfInBounds_toArray, List.set_cons_zero, List.set_cons_succ, i64_w, i32_w]
  rfl
 refine take_ (i := 6) (N := some 8) (v := .int .u64 a2) (a' := ?_) (up 32 7) rfl rfl (by kernel_rfl) (fun _ _ _ h => h) (own_yield1 (by rfl) (x := .tmp 7) rfl (by rfl) (.head) huu (by rfl) (by rfl)) hHeld ?_ ?_
 rotate_left
 ·simp only [Act.put, List.setIfInBounds_toArray, List.set_cons_zero, List.set_cons_succ, i64_w, i32_w]
  rfl
 refine pure_ (i := 7) (N := some 9) (v := ?_) (a' := ?_) (up 32 8) rfl rfl (by kernel_rfl) (fun _ _ _ h => h) (Or.inl ⟨by rfl, ?_⟩) ?_ ?_
 rotate_left
 ·intro w'
  go_simp
  with_reducible rfl
 rotate_left
 ·simp only [Act.put, List.setIfInBounds_toArray, List.set_cons_zero, List.set_cons_succ, i64_w, i32_w]
  rfl
 refine pure_ (i := 8) (N := some 10) (v := ?_) (a' := ?_) (up 32 9) rfl rfl (by kernel_rfl) (fun _ _ _ h => h) (Or.inl ⟨by rfl, ?_⟩) ?_ ?_
 rotate_left
 ·intro w'
  go_simp
  with_reducible rfl
 rotate_left
 ·simp only [Act.put, List.setIfInBounds_toArray, List.set_cons_zero, List.set_cons_succ, i64_w, i32_w]
  rfl
 refine pure_ (i := 9) (N := some 11) (v := ?_) (a' := ?_) (up 32 10) rfl rfl (by kernel_rfl) (fun _ _ _ h => h) (Or.inl ⟨by rfl, ?_⟩) ?_ ?_
 rotate_left
 ·intro w'
  go_simp
  with_reducible rfl
 rotate_left
 ·simp only [Act.put, List.setIfInBounds_toArray, List.set_cons_zero, List.set_cons_succ, i64_w, i32_w]
  rfl
 refine pure_ (i := 10) (N := some 12) (v := ?_) (a' := ?_) (up 32 11) rfl rfl (by kernel_rfl) (fun _ _ _ h => h) (Or.inl ⟨by rfl, ?_⟩) ?_ ?_
 rotate_left
 ·intro w'
  go_simp
  with_reducible rfl
 rotate_left
 ·simp only [Act.put, List.setIfInBounds_toArray, List.set_cons_zero, List.set_cons_succ, i64_w, i32_w]
  rfl
 refine take_ (i := 11) (N := some 13) (v := .int .u64 b2) (a' := ?_) (up 32 12) rfl rfl (by kernel_rfl) (fun _ _ _ h => h) (own_yield1 (by rfl) (x := .tmp 12) rfl (by rfl) (.head) huu (by rfl) (by rfl)) hHeld ?_ ?_
 rotate_left
 ·simp only [Act.put, List.setIfInBounds_toArray, List.set_cons_zero, List.set_cons_succ, i64_w, i32_w]
  rfl
 refine pure_ (i := 12) (N := some 14) (v := ?_) (a' := ?_) (up 32 13) rfl rfl (by kernel_rfl) (fun _ _ _ h => h) (Or.inl ⟨by rfl, ?_⟩) ?_ ?_
 rotate_left
 ·intro w'
  go_simp
  with_reducible rfl
 rotate_left
 ·simp only [Act.put, List.setIfInBounds_toArray, List.set_cons_zero, List.set_cons_succ, i64_w, i32_w]
  rfl
 refine pure_ (i := 13) (N := some 15) (v := ?_) (a' := ?_) (up 32 14) rfl rfl (by kernel_rfl) (fun _ _ _ h => h) (Or.inl ⟨by rfl, ?_⟩) ?_ ?_
 rotate_left
 ·intro w'
  go_simp
  with_reducible rfl
 rotate_left
 ·simp only [Act.put, List.setIfInBounds_toArray, List.set_cons_zero, List.set_cons_succ, i64_w, i32_w]
  rfl
 refine pure_ (i := 14) (N := some 16) (v := ?_) (a' := ?_) (up 32 15) rfl rfl (by kernel_rfl) (fun _ _ _ h => h) (Or.inl ⟨by rfl, ?_⟩) ?_ ?_
 rotate_left
 ·intro w'
  go_simp
  with_reducible rfl
 rotate_left
 ·simp only [Act.put, List.setIfInBounds_toArray, List.set_cons_zero, List.set_cons_succ, i64_w, i32_w]
  rfl
 refine pure_ (i := 15) (N := some 17) (v := ?_) (a' := ?_) (up 32 16) rfl rfl (by kernel_rfl) (fun _ _ _ h => h) (Or.inl ⟨by rfl, ?_⟩) ?_ ?_
 rotate_left
 ·intro w'
  go_simp
  with_reducible rfl
 rotate_left
 ·simp only [Act.put, List.setIfInBounds_toArray, List.set_cons_zero, List.set_cons_succ, i64_w, i32_w]
  rfl
 refine pure_ (i := 16) (N := some 18) (v := ?_) (a' := ?_) (up 32 17) rfl rfl (by kernel_rfl) (fun _ _ _ h => h) (Or.inl ⟨by rfl, ?_⟩) ?_ ?_
 rotate_left
 ·intro w'
  go_simp
  with_reducible rfl
 rotate_left
 ·simp only [Act.put, List.setIfInBounds_toArray, List.set_cons_zero, List.set_cons_succ, i64_w, i32_w]
  rfl
 refine take_ (i := 17) (N := some 19) (v := .int .u64 b3) (a' := ?_) (up 32 18) rfl rfl (by kernel_rfl) (fun _ _ _ h => h) (own_yield1 (by rfl) (x := .tmp 18) rfl (by rfl) (.head) huu (by rfl) (by rfl)) hHeld ?_ ?_
 rotate_left
 ·simp only [Act.put, List.setIfInBounds_toArray, List.set_cons_zero, List.set_cons_succ, i64_w, i32_w]
  rfl
 refine pure_ (i := 18) (N := some 20) (v := ?_) (a' := ?_) (up 32 19) rfl rfl (by kernel_rfl) (fun _ _ _ h => h) (Or.inl ⟨by rfl, ?_⟩) ?_ ?_
 rotate_left
 ·intro w'
  go_simp
  with_reducible rfl
 rotate_left
 ·simp only [Act.put, List.setIfInBounds_toArray, List.set_cons_zero, List.set_cons_succ, i64_w, i32_w]
  rfl
 refine pure_ (i := 19) (N := some 21) (v := ?_) (a' := ?_) (up 32 20) rfl rfl (by kernel_rfl) (fun _ _ _ h => h) (Or.inl ⟨by rfl, ?_⟩) ?_ ?_
 rotate_left
 ·intro w'
  go_simp
  with_reducible rfl
 rotate_left
 ·simp only [Act.put, List.setIfInBounds_toArray, List.set_cons_zero, List.set_cons_succ, i64_w, i32_w]
  rfl
 refine pure_ (i := 20) (N := some 22) (v := ?_) (a' := ?_) (up 32 21) rfl rfl (by kernel_rfl) (fun _ _ _ h => h) (Or.inl ⟨by rfl, ?_⟩) ?_ ?_
 rotate_left
 ·intro w'
  go_simp
  with_reducible rfl
 rotate_left
 ·simp only [Act.put, List.setIfInBounds_toArray, List.set_cons_zero, List.set_cons_succ, i64_w, i32_w]
  rfl
 refine pure_ (i := 21) (N := some 23) (v := ?_) (a' := ?_) (up 32 22) rfl rfl (by kernel_rfl) (fun _ _ _ h => h) (Or.inl ⟨by rfl, ?_⟩) ?_ ?_
 rotate_left
 ·intro w'
  go_simp
  with_reducible rfl
 rotate_left
 ·simp only [Act.put, List.setIfInBounds_toArray, List.set_cons_zero, List.set_cons_succ, i64_w, i32_w]
  rfl
 refine take_ (i := 22) (N := some 24) (v := .int .u64 a3) (a' := ?_) (up 32 23) rfl rfl (by kernel_rfl) (fun _ _ _ h => h) (own_yield1 (by rfl) (x := .tmp 23) rfl (by rfl) (.head) huu (by rfl) (by rfl)) hHeld ?_ ?_
 rotate_left
 ·simp only [Act.put, List.setIfInBounds_toArray, List.set_cons_zero, List.set_cons_succ, i64_w, i32_w]
  rfl
 refine pure_ (i := 23) (N := some 25) (v := ?_) (a' := ?_) (up 32 24) rfl rfl (by kernel_rfl) (fun _ _ _ h => h) (Or.inl ⟨by rfl, ?_⟩) ?_ ?_
 rotate_left
 ·intro w'
  go_simp
  with_reducible rfl
 rotate_left
 ·simp only [Act.put, List.setIfInBounds_toArray, List.set_cons_zero, List.set_cons_succ, i64_w, i32_w]
  rfl
 refine pure_ (i := 24) (N := some 26) (v := ?_) (a' := ?_) (up 32 25) rfl rfl (by kernel_rfl) (fun _ _ _ h => h) (Or.inl ⟨by rfl, ?_⟩) ?_ ?_
 rotate_left
 ·intro w'
  go_simp
  with_reducible rfl
 rotate_left
 ·simp only [Act.put, List.setIfInBounds_toArray, List.set_cons_zero, List.set_cons_succ, i64_w, i32_w]
  rfl
 refine pure_ (i := 25) (N := some 27) (v := ?_) (a' := ?_) (up 32 26) rfl rfl (by kernel_rfl) (fun _ _ _ h => h) (Or.inl ⟨by rfl, ?_⟩) ?_ ?_
 rotate_left
 ·intro w'
  go_simp
  with_reducible rfl
 rotate_left
 ·simp only [Act.put, List.setIfInBounds_toArray, List.set_cons_zero, List.set_cons_succ, i64_w, i32_w]
  rfl
 refine pure_ (i := 26) (N := some 28) (v := ?_) (a' := ?_) (up 32 27) rfl rfl (by kernel_rfl) (fun _ _ _ h => h) (Or.inl ⟨by rfl, ?_⟩) ?_ ?_
 rotate_left
 ·intro w'
  go_simp
  with_reducible rfl
 rotate_left
 ·simp only [Act.put, List.setIfInBounds_toArray, List.set_cons_zero, List.set_cons_succ, i64_w, i32_w]
  rfl
 refine last_ (i := 27) (N := none) (up 32 28) rfl rfl (by kernel_rfl) (by decide) (fun K hK => ?_)
 refine own_store_k HO.out (by rfl) rfl (ty := 22) (x := .tmp 28) (y := .tmp 14) (v := .int .u64 (mx a2 b2)) (cs' := #[.int .u64 a0, .int .u64 a1, .int .u64 (mx a2 b2), .int .u64 a3, .int .i64 a4, .int .i64 a5, .int .u64 b0, .int .u64 b1, .int .u64 b2, .int .u64 b3, .int .i64 b4, .int .i64 b5, .bool nn]) rfl (by rfl) (by rfl) (.head) (by kernel_rfl) (by rfl) (by first | decide | (simp; done)) (by rfl) ?_
 intro wc hO_
 clear HO; have HO := Aside0.mk hO_; clear hO_
 refine hK.out _ _ ?_
 clear hK K
 refine pure_ (i := 28) (N := some 29) (v := ?_) (a' := ?_) (up 32 29) rfl rfl (by kernel_rfl) (fun _ _ _ h => h) (Or.inl ⟨by rfl, ?_⟩) ?_ ?_
 rotate_left
 ·intro w'
  go_simp
  with_reducible rfl
 rotate_left
 ·simp only [Act.put, List.setIfInBounds_toArray, List.set_cons_zero, List.set_cons_succ, i64_w, i32_w]
  rfl
 refine pure_ (i := 29) (N := some 30) (v := ?_) (a' := ?_) (up 32 30) rfl rfl (by kernel_rfl) (fun _ _ _ h => h) (Or.inl ⟨by rfl, ?_⟩) ?_ ?_
 rotate_left
 ·intro w'
  go_simp
  with_reducible rfl
 rotate_left
 ·simp only [Act.put, List.setIfInBounds_toArray, List.set_cons_zero, List.set_cons_succ, i64_w, i32_w]
  rfl
 refine pure_ (i := 30) (N := some 31) (v := ?_) (a' := ?_) (up 32 31) rfl rfl (by kernel_rfl) (fun _ _ _ h => h) (Or.inl ⟨by rfl, ?_⟩) ?_ ?_
 rotate_left
 ·intro w'
  go_simp
  with_reducible rfl
 rotate_left
 ·simp only [Act.put, List.setIfInBounds_toArray, List.set_cons_zero, List.set_cons_succ, i64_w, i32_w]
  rfl
 refine last_ (i := 31) (N := none) (up 32 32) rfl rfl (by kernel_rfl) (by decide) (fun K hK => ?_)
 refine own_store_k HO.out (by rfl) rfl (ty := 22) (x := .tmp 31) (y := .tmp 25) (v := .int .u64 (mn b3 a3)) (cs' := #[.int .u64 a0, .int .u64 a1, .int .u64 (mx a2 b2), .int .u64 a3, .int .i64 a4, .int .i64 a5, .int .u64 b0, .int .u64 b1, .int .u64 b2, .int .u64 (mn b3 a3), .int .i64 b4, .int .i64 b5, .bool nn]) rfl (by rfl) (by rfl) (.head) (by kernel_rfl) (by rfl) (by first | decide | (simp; done)) (by rfl) ?_
 intro wc hO_
 clear HO; have HO := Aside0.mk hO_; clear hO_
 refine hK.out _ _ ?_
 clear hK K
 refine done_ (by kernel_rfl) ?_
 clear hHeld
 (first | go_end0 | refine bodyPost_ret (results_none rfl _ _ _) rfl ?_)
 exact ⟨rfl, HO.out⟩
def nw_notBelowSigned (p : NwP) : Option NwP := match p with
 | ⟨a0, a1, a2, a3, a4, a5, b0, b1, b2, b3, b4, b5, nn⟩ => some ⟨a0, a1, a2, a3, mx a4 b4, a5, b0, b1, b2, b3, b4, mn b5 a5, nn⟩
set_option maxHeartbeats 8000000 in
set_option maxRecDepth 100000 in
theorem nw_notBelowSigned_ok : NwOk 92 nw_notBelowSigned := by
 intro p q gp w0 w L h hO
 obtain ⟨a0, a1, a2, a3, a4, a5, b0, b1, b2, b3, b4, b5, nn⟩ := p
 have HO : Aside0 (Own w0 w ((gp, .cells #[.int .u64 a0, .int .u64 a1, .int .u64 a2, .int .u64 a3, .int .i64 a4, .int .i64 a5, .int .u64 b0, .int .u64 b1, .int .u64 b2, .int .u64 b3, .int .i64 b4, .int .i64 b5, .bool nn] 87 (0, 0)) :: L)) := ⟨hO⟩
 clear hO
 have hup := Try.underlying87
 have hun := Try.underlying36
 have hut := Try.underlying34
 have huu := Try.underlying22
 have hui := Try.underlying2
 have hub := Try.underlying4
 unfold nw_notBelowSigned at h
 obtain rfl := Option.some.inj h
 clear h
 go_enter Try.func92, Try.ntmps92
 try go_wp2
 refine start_ (n := 32) (S := fun W => Own w0 W ((gp, .cells #[.int .u64 a0, .int .u64 a1, .int .u64 a2, .int .u64 a3, .int .i64 a4, .int .i64 a5, .int .u64 b0, .int .u64 b1, .int .u64 b2, .int .u64 b3, .int .i64 b4, .int .i64 b5, .bool nn] 87 (0, 0)) :: L)) (ds := [27, 31]) #[false, false, false, false, false, false, false, false, false, false, false, false, false, false, false, false, false, false, false, false, false, false, false, false, false, false, false, false, false, false, false, false] (by kernel_rfl) rfl rfl (Own.drew (HO.out)) (fun hHeld => ?_)
 have HO_ := Aside0.mk HO.out.drew
 clear HO
 have HO := HO_
 clear HO_
 generalize World.drew _ = wr at HO hHeld ⊢
 refine pure_ (i := 0) (N := some 2) (v := ?_) (a' := ?_) (up 32 1) rfl rfl (by kernel_rfl) (fun _ _ _ h => h) (Or.inl ⟨by rfl, ?_⟩) ?_ ?_
 rotate_left
 ·intro w'
  go_simp
  with_reducible rfl
 rotate_left
 ·simp only [Act.put, List.setIfInBounds_toArray, List.set_cons_zero, List.set_cons_succ, i64_w, i32_w]
  rfl
 refine pure_ (i := 1) (N := some 3) (v := ?_) (a' := ?_) (up 32 2) rfl rfl (by kernel_rfl) (fun _ _ _ h => h) (Or.inl ⟨by rfl, ?_⟩) ?_ ?_
 rotate_left
 ·intro w'
  go_simp
  with_reducible rfl
 rotate_left
 ·simp only [Act.put, List.setIfInBounds_toArray, List.set_cons_zero, List.set_cons_succ, i64_w, i32_w]
  rfl
 refine pure_ (i := 2) (N := some 4) (v := ?_) (a' := ?_) (up 32 3) rfl rfl (by kernel_rfl) (fun _ _ _ h => h) (Or.inl ⟨by rfl, ?_⟩) ?_ ?_
 rotate_left
 ·intro w'
  go_simp
  with_reducible rfl
 rotate_left
 ·simp only [Act.put, List.setIfInBounds_toArray, List.set_cons_zero, List.set_cons_succ, i64_w, i32_w]
  rfl
 refine pure_ (i := 3) (N := some 5) (v := ?_) (a' := ?_) (up 32 4) rfl rfl (by kernel_rfl) (fun _ _ _ h => h) (Or.inl ⟨by rfl, ?_⟩) ?_ ?_
 rotate_left
 ·intro w'
  go_simp
  with_reducible rfl
 rotate_left
 ·simp only [Act.put, List.setIfInBounds_toArray, List.set_cons_zero, List.set_cons_succ, i64_w, i32_w]
  rfl
 refine pure_ (i := 4) (N := some 6) (v := ?_) (a' := ?_) (up 32 5) rfl rfl (by kernel_rfl) (fun _ _ _ h => h) (Or.inl ⟨by rfl, ?_⟩) ?_ ?_
 rotate_left
 ·intro w'
  go_simp
  with_reducible rfl
 rotate_left
 ·simp only [Act.put, List.setIfInBounds_toArray, List.set_cons_zero, List.set_cons_succ, i64_w, i32_w]
  rfl
 refine pure_ (i := 5) (N := some 7) (v := ?_) (a' := ?_) (up 32 6) rfl rfl (by kernel_rfl) (fun _ _ _ h => h) (Or.inl ⟨by rfl, ?_⟩) ?_ ?_
 rotate_left
 ·intro w'
  go_simp
  with_reducible rfl
 rotate_left
 ·simp only [Act.put, List.setIfInBounds_toArray, List.set_cons_zero, List.set_cons_succ, i64_w, i32_w]
  rfl
 refine take_ (i := 6) (N := some 8) (v := .int .i64 a4) (a' := ?_) (up 32 7) rfl rfl (by kernel_rfl) (fun _ _ _ h => h) (own_yield1 (by rfl) (x := .tmp 7) rfl (by rfl) (.head) hui (by rfl) (by rfl)) hHeld ?_ ?_
 rotate_left
 ·simp only [Act.put, List.setIfInBounds_toArray, List.set_cons_zero, List.set_cons_succ, i64_w, i32_w]
  rfl
 refine pure_ (i := 7) (N := some 9) (v := ?_) (a' := ?_) (up 32 8) rfl rfl (by kernel_rfl) (fun _ _ _ h => h) (Or.inl ⟨by rfl, ?_⟩) ?_ ?_
 rotate_left
 ·intro w'
  go_simp
  with_reducible rfl
 rotate_left
 ·simp only [Act.put, List.setIfInBounds_toArray, List.set_cons_zero, List.set_cons_succ, i64_w, i32_w]
  rfl
 refine pure_ (i := 8) (N := some 10) (v := ?_) (a' := ?_) (up 32 9) rfl rfl (by kernel_rfl) (fun _ _ _ h => h) (Or.inl ⟨by rfl, ?_⟩) ?_ ?_
 rotate_left
 ·intro w'
  go_simp
  with_reducible rfl
 rotate_left
 ·simp only [Act.put, List.setIfInBounds_toArray, List.set_cons_zero, List.set_cons_succ, i64_w, i32_w]
  rfl
 refine pure_ (i := 9) (N := some 11) (v := ?_) (a' := ?_) (up 32 10) rfl rfl (by kernel_rfl) (fun _ _ _ h => h) (Or.inl ⟨by rfl, ?_⟩) ?_ ?_
 rotate_left
 ·intro w'
  go_simp
  with_reducible rfl
 rotate_left
 ·simp only [Act.put, List.setIfInBounds_toArray, List.set_cons_zero, List.set_cons_succ, i64_w, i32_w]
  rfl
 refine pure_ (i := 10) (N := some 12) (v := ?_) (a' := ?_) (up 32 11) rfl rfl (by kernel_rfl) (fun _ _ _ h => h) (Or.inl ⟨by rfl, ?_⟩) ?_ ?_
 rotate_left
 ·intro w'
  go_simp
  with_reducible rfl
 rotate_left
 ·simp only [Act.put, List.setIfInBounds_toArray, List.set_cons_zero, List.set_cons_succ, i64_w, i32_w]
  rfl
 refine take_ (i := 11) (N := some 13) (v := .int .i64 b4) (a' := ?_) (up 32 12) rfl rfl (by kernel_rfl) (fun _ _ _ h => h) (own_yield1 (by rfl) (x := .tmp 12) rfl (by rfl) (.head) hui (by rfl) (by rfl)) hHeld ?_ ?_
 rotate_left
 ·simp only [Act.put, List.setIfInBounds_toArray, List.set_cons_zero, List.set_cons_succ, i64_w, i32_w]
  rfl
 refine pure_ (i := 12) (N := some 14) (v := ?_) (a' := ?_) (up 32 13) rfl rfl (by kernel_rfl) (fun _ _ _ h => h) (Or.inl ⟨by rfl, ?_⟩) ?_ ?_
 rotate_left
 ·intro w'
  go_simp
  with_reducible rfl
 rotate_left
 ·simp only [Act.put, List.setIfInBounds_toArray, List.set_cons_zero, List.set_cons_succ, i64_w, i32_w]
  rfl
 refine pure_ (i := 13) (N := some 15) (v := ?_) (a' := ?_) (up 32 14) rfl rfl (by kernel_rfl) (fun _ _ _ h => h) (Or.inl ⟨by rfl, ?_⟩) ?_ ?_
 rotate_left
 ·intro w'
  go_simp
  with_reducible rfl
 rotate_left
 ·simp only [Act.put, List.setIfInBounds_toArray, List.set_cons_zero, List.set_cons_succ, i64_w, i32_w]
  rfl
 refine pure_ (i := 14) (N := some 16) (v := ?_) (a' := ?_) (up 32 15) rfl rfl (by kernel_rfl) (fun _ _ _ h => h) (Or.inl ⟨by rfl, ?_⟩) ?_ ?_
 rotate_left
 ·intro w'
  go_simp
  with_reducible rfl
 rotate_left
 ·simp only [Act.put, List.setIfInBounds_toArray, List.set_cons_zero, List.set_cons_succ, i64_w, i32_w]
  rfl
 refine pure_ (i := 15) (N := some 17) (v := ?_) (a' := ?_) (up 32 16) rfl rfl (by kernel_rfl) (fun _ _ _ h => h) (Or.inl ⟨by rfl, ?_⟩) ?_ ?_
 rotate_left
 ·intro w'
  go_simp
  with_reducible rfl
 rotate_left
 ·simp only [Act.put, List.setIfInBounds_toArray, List.set_cons_zero, List.set_cons_succ, i64_w, i32_w]
  rfl
 refine pure_ (i := 16) (N := some 18) (v := ?_) (a' := ?_) (up 32 17) rfl rfl (by kernel_rfl) (fun _ _ _ h => h) (Or.inl ⟨by rfl, ?_⟩) ?_ ?_
 rotate_left
 ·intro w'
  go_simp
  with_reducible rfl
 rotate_left
 ·simp only [Act.put, List.setIfInBounds_toArray, List.set_cons_zero, List.set_cons_succ, i64_w, i32_w]
  rfl
 refine take_ (i := 17) (N := some 19) (v := .int .i64 b5) (a' := ?_) (up 32 18) rfl rfl (by kernel_rfl) (fun _ _ _ h => h) (own_yield1 (by rfl) (x := .tmp 18) rfl (by rfl) (.head) hui (by rfl) (by rfl)) hHeld ?_ ?_
 rotate_left
 ·simp only [Act.put, List.setIfInBounds_toArray, List.set_cons_zero, List.set_cons_succ, i64_w, i32_w]
  rfl
 refine pure_ (i := 18) (N := some 20) (v := ?_) (a' := ?_) (up 32 19) rfl rfl (by kernel_rfl) (fun _ _ _ h => h) (Or.inl ⟨by rfl, ?_⟩) ?_ ?_
 rotate_left
 ·intro w'
  go_simp
  with_reducible rfl
 rotate_left
 ·simp only [Act.put, List.setIfInBounds_toArray, List.set_cons_zero, List.set_cons_succ, i64_w, i32_w]
  rfl
 refine pure_ (i := 19) (N := some 21) (v := ?_) (a' := ?_) (up 32 20) rfl rfl (by kernel_rfl) (fun _ _ _ h => h) (Or.inl ⟨by rfl, ?_⟩) ?_ ?_
 rotate_left
 ·intro w'
  go_simp
  with_reducible rfl
 rotate_left
 ·simp only [Act.put, List.setIfInBounds_toArray, List.set_cons_zero, List.set_cons_succ, i64_w, i32_w]
  rfl
 refine pure_ (i := 20) (N := some 22) (v := ?_) (a' := ?_) (up 32 21) rfl rfl (by kernel_rfl) (fun _ _ _ h => h) (Or.inl ⟨by rfl, ?_⟩) ?_ ?_
 rotate_left
 ·intro w'
  go_simp
  with_reducible rfl
 rotate_left
 ·simp only [Act.put, List.setIfInBounds_toArray, List.set_cons_zero, List.set_cons_succ, i64_w, i32_w]
  rfl
 refine pure_ (i := 21) (N := some 23) (v := ?_) (a' := ?_) (up 32 22) rfl rfl (by kernel_rfl) (fun _ _ _ h => h) (Or.inl ⟨by rfl, ?_⟩) ?_ ?_
 rotate_left
 ·intro w'
  go_simp
  with_reducible rfl
 rotate_left
 ·simp only [Act.put, List.setIfInBounds_toArray, List.set_cons_zero, List.set_cons_succ, i64_w, i32_w]
  rfl
 refine take_ (i := 22) (N := some 24) (v := .int .i64 a5) (a' := ?_) (up 32 23) rfl rfl (by kernel_rfl) (fun _ _ _ h => h) (own_yield1 (by rfl) (x := .tmp 23) rfl (by rfl) (.head) hui (by rfl) (by rfl)) hHeld ?_ ?_
 rotate_left
 ·simp only [Act.put, List.setIfInBounds_toArray, List.set_cons_zero, List.set_cons_succ, i64_w, i32_w]
  rfl
 refine pure_ (i := 23) (N := some 25) (v := ?_) (a' := ?_) (up 32 24) rfl rfl (by kernel_rfl) (fun _ _ _ h => h) (Or.inl ⟨by rfl, ?_⟩) ?_ ?_
 rotate_left
 ·intro w'
  go_simp
  with_reducible rfl
 rotate_left
 ·simp only [Act.put, List.setIfInBounds_toArray, List.set_cons_zero, List.set_cons_succ, i64_w, i32_w]
  rfl
 refine pure_ (i := 24) (N := some 26) (v := ?_) (a' := ?_) (up 32 25) rfl rfl (by kernel_rfl) (fun _ _ _ h => h) (Or.inl ⟨by rfl, ?_⟩) ?_ ?_
 rotate_left
 ·intro w'
  go_simp
  with_reducible rfl
 rotate_left
 ·simp only [Act.put, List.setIfInBounds_toArray, List.set_cons_zero, List.set_cons_succ, i64_w, i32_w]
  rfl
 refine pure_ (i := 25) (N := some 27) (v := ?_) (a' := ?_) (up 32 26) rfl rfl (by kernel_rfl) (fun _ _ _ h => h) (Or.inl ⟨by rfl, ?_⟩) ?_ ?_
 rotate_left
 ·intro w'
  go_simp
  with_reducible rfl
 rotate_left
 ·simp only [Act.put, List.setIfInBounds_toArray, List.set_cons_zero, List.set_cons_succ, i64_w, i32_w]
  rfl
 refine pure_ (i := 26) (N := some 28) (v := ?_) (a' := ?_) (up 32 27) rfl rfl (by kernel_rfl) (fun _ _ _ h => h) (Or.inl ⟨by rfl, ?_⟩) ?_ ?_
 rotate_left
 ·intro w'
  go_simp
  with_reducible rfl
 rotate_left
 ·simp only [Act.put, List.setIfInBounds_toArray, List.set_cons_zero, List.set_cons_succ, i64_w, i32_w]
  rfl
 refine last_ (i := 27) (N := none) (up 32 28) rfl rfl (by kernel_rfl) (by decide) (fun K hK => ?_)
 refine own_store_k HO.out (by rfl) rfl (ty := 2) (x := .tmp 28) (y := .tmp 14) (v := .int .i64 (mx a4 b4)) (cs' := #[.int .u64 a0, .int .u64 a1, .int .u64 a2, .int .u64 a3, .int .i64 (mx a4 b4), .int .i64 a5, .int .u64 b0, .int .u64 b1, .int .u64 b2, .int .u64 b3, .int .i64 b4, .int .i64 b5, .bool nn]) rfl (by rfl) (by rfl) (.head) (by kernel_rfl) (by rfl) (by first | decide | (simp; done)) (by rfl) ?_
 intro wc hO_
 clear HO; have HO := Aside0.mk hO_; clear hO_
 refine hK.out _ _ ?_
 clear hK K
 refine pure_ (i := 28) (N := some 29) (v := ?_) (a' := ?_) (up 32 29) rfl rfl (by kernel_rfl) (fun _ _ _ h => h) (Or.inl ⟨by rfl, ?_⟩) ?_ ?_
 rotate_left
 ·intro w'
  go_simp
  with_reducible rfl
 rotate_left
 ·simp only [Act.put, List.setIfInBounds_toArray, List.set_cons_zero, List.set_cons_succ, i64_w, i32_w]
  rfl
 refine pure_ (i := 29) (N := some 30) (v := ?_) (a' := ?_) (up 32 30) rfl rfl (by kernel_rfl) (fun _ _ _ h => h) (Or.inl ⟨by rfl, ?_⟩) ?_ ?_
 rotate_left
 ·intro w'
  go_simp
  with_reducible rfl
 rotate_left
 ·simp only [Act.put, List.setIfInBounds_toArray, List.set_cons_zero, List.set_cons_succ, i64_w, i32_w]
  rfl
 refine pure_ (i := 30) (N := some 31) (v := ?_) (a' := ?_) (up 32 31) rfl rfl (by kernel_rfl) (fun _ _ _ h => h) (Or.inl ⟨by rfl, ?_⟩) ?_ ?_
 rotate_left
 ·intro w'
  go_simp
  with_reducible rfl
 rotate_left
 ·simp only [Act.put, List.setIfInBounds_toArray, List.set_cons_zero, List.set_cons_succ, i64_w, i32_w]
  rfl
 refine last_ (i := 31) (N := none) (up 32 32) rfl rfl (by kernel_rfl) (by decide) (fun K hK => ?_)
 refine own_store_k HO.out (by rfl) rfl (ty := 2) (x := .tmp 31) (y := .tmp 25) (v := .int .i64 (mn b5 a5)) (cs' := #[.int .u64 a0, .int .u64 a1, .int .u64 a2, .int .u64 a3, .int .i64 (mx a4 b4), .int .i64 a5, .int .u64 b0, .int .u64 b1, .int .u64 b2, .int .u64 b3, .int .i64 b4, .int .i64 (mn b5 a5), .bool nn]) rfl (by rfl) (by rfl) (.head) (by kernel_rfl) (by rfl) (by first | decide | (simp; done)) (by rfl) ?_
 intro wc hO_
 clear HO; have HO := Aside0.mk hO_; clear hO_
 refine hK.out _ _ ?_
 clear hK K
 refine done_ (by kernel_rfl) ?_
 clear hHeld
 (first | go_end0 | refine bodyPost_ret (results_none rfl _ _ _) rfl ?_)
 exact ⟨rfl, HO.out⟩


end Go.Proofs.Ytdojdjafleaedaa.PNarrowSound
