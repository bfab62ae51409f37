/- A step of a region that draws its order, in few signs: what it asks is found by the steps that the print writes out; no conditions beyond each theorem's own. -/
import Derived.Test.YtgkdbhkbkpfbpaaWMore
import Derived.RegionTactic
set_option linter.unusedVariables false
set_option linter.unusedSimpArgs false
namespace Go.Proofs.Hp
open Go.RowKit Go.Proofs.YtgkdbhkbkpfbpaaW.PrintWords Go.Proofs.YtgkdbhkbkpfbpaaW.PrintLast Go.Proofs.YtgkdbhkbkpfbpaaW.PrintMore
/-- The first k of n operations are done. -/
def up (n k : Nat) : Array Bool := ((List.range n).map fun i => decide (i < k)).toArray
theorem pu_ {P : Program} {ops : Array Oper} {Q : Exit → Act → World → Prop} {a : Act} {md : Region.Mode} {S : World → Prop} {ds : List Nat} {fuel : Nat} {l : Array Bool} {w : World} {oi : Oper} {v : Value} {a' : Act} (i : Nat) (N : Tmp) (l' : Array Bool)
    (h : wpAnyLast P md ops Q S ds fuel l' a' w) (hi : ops[i]? = some oi := by rfl) (hN : oi.dst = some N := by rfl) (hc : anyB md ops l l' i = true := by kernel_rfl) (hQ : ∀ c a w, Q (.panic c) (a.put oi.dst v) w → Q (.panic c) a w := by exact fun _ _ _ h => h)
    (hw : Region.wanted oi (yielded ops a.tmps) = true := by rfl) (hr : ∀ w', (execOp a.eval oi).run P w' = .ok (.value v) w' := by (intro w'; go_simp; with_reducible rfl)) (ha : a.put (some N) v = a' := by (simp only [Act.put, List.setIfInBounds_toArray, List.set_cons_zero, List.set_cons_succ, i64_w, i32_w]; rfl)) :
    wpAnyLast P md ops Q S ds (fuel + 1) l a w := pure_ l' hi hN hc hQ (Or.inl ⟨hw, hr⟩) ha h
end Go.Proofs.Hp
