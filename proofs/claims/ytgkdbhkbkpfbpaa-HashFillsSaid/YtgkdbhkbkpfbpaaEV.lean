/- Events of a walk that the words of the print lack: maps that are made here, calls of function values, whole structs and arrays stored and loaded; no conditions beyond each theorem's own. -/
import Derived.RegionTactic
import Derived.ChangeAlike
import Derived.MapKept
import Derived.LoopN
import Derived.Laws.Tables
import Derived.Laws.Rows
import Derived.Test.YtgkdbhkbkpfbpaaWMore
set_option linter.unusedVariables false
set_option linter.unusedSimpArgs false
namespace Go.Proofs.Ev
open Go.RowKit Go.Proofs.YtgkdbhkbkpfbpaaW.PrintWords Go.Proofs.YtgkdbhkbkpfbpaaW.PrintLast Go.Proofs.YtgkdbhkbkpfbpaaW.PrintMore
section
variable {P : Program} {ops : Array Oper} {rest : List Oper} {o : Oper} {a : Act} {Q : Exit → Act → World → Prop}
theorem mkmap_event {W : World} (hgd : o.guard = none) {N : Tmp} (_hd : o.dst = some N) {t : TypeId} (ho : o.op = .makeMap t none)
    (h : ∀ g, g = W.heap.size → ∀ w1, w1.heap[g]? = some (.map #[] 0) → Below W.heap.size W w1 → wpList P ops Q rest (a.put o.dst (.map (some g))) w1) : wpList P ops Q (o :: rest) a W := by
  have hrun : (execOp a.eval o).run P W = .ok (.value (.map (some W.heap.size))) (W.alloc (.map #[] 0)) := by
    unfold execOp
    rw [ho]
    rfl
  exact Kd.event_run hgd hrun (h _ rfl _ (blk_new W _) (below_alloc (Below.refl _ _) _))
theorem below_obj {W : World} {B g : Nat} (hB : B ≤ g) (ob : Obj) : Below B W { W with heap := W.heap.setIfInBounds g ob } :=
  ⟨rfl, rfl, rfl, by simp, fun k hk => by simp [Array.getElem?_setIfInBounds]; intro e; omega⟩
theorem run_update_new {W : World} {t kt et : TypeId} {d : TypeDesc} {g c : Nat} {es : Array MapEntry} {k x : Value} (ht : P.underlying t = some (.map kt et)) (hd : P.underlying kt = some d) (hk : MapKept.IsKey d k)
    (hb : W.heap[g]? = some (.map es c)) (hf : Instr.findNow d k es.toList 0 = some none) :
    (Instr.mapUpdate t (.map (some g)) k x).run P W = .ok () { W with heap := W.heap.setIfInBounds g (.map (es.push { key := k, val := x, born := c }) (c + 1)) } := by
  unfold Instr.mapUpdate
  simp only [Sem.run_bind, run_underlying ht, Result.andThen, MapKept.run_getObj_map hb, MapKept.run_checkKey hd hk false 9999, MapKept.run_findKey hd hf]
  exact MapKept.run_setObj_map _ hb
theorem insert_event2 {W : World} (hgd : o.guard = none) {t kt et : TypeId} {m k x : Operand} (ho : o.op = .insert t m k x) {d : TypeDesc} {g c : Nat} {es : Array MapEntry} (ht : P.underlying t = some (.map kt et)) (hd : P.underlying kt = some d)
    (hm : a.eval m = .map (some g)) (hk : MapKept.IsKey d (a.eval k)) (hb : W.heap[g]? = some (.map es c)) (hf : Instr.findNow d (a.eval k) es.toList 0 = some none)
    (h : ∀ w1, w1.heap[g]? = some (.map (es.push { key := a.eval k, val := a.eval x, born := c }) (c + 1)) → (∀ B, B ≤ g → Below B W w1) → (∀ i, i ≠ g → w1.heap[i]? = W.heap[i]?) → wpList P ops Q rest (a.put o.dst undef) w1) : wpList P ops Q (o :: rest) a W := by
  refine wpList_plain hgd fun K hK => ?_
  unfold Oper.wp execOp
  rw [ho]
  simp only [hm, Sem.run_bind, run_update_new ht hd hk hb hf, Result.andThen]
  refine hK _ _ (h _ ?_ (fun B hB => below_obj hB _) (fun i hi => ?_))
  · have := blk_lt hb
    simp [this]
  · simp only [Array.getElem?_setIfInBounds]
    rw [if_neg (Ne.symm hi)]
/-- What a look-up tells. -/
def looked (z : Value) : Option (Nat × Value) → Value
  | some q => .tuple #[q.2, .bool true]
  | none => .tuple #[z, .bool false]
theorem lookup_event {W : World} (hgd : o.guard = none) {t kt et : TypeId} {m k : Operand} (ho : o.op = .lookup t m k true) {d : TypeDesc} {g c : Nat} {es : Array MapEntry} (ht : P.underlying t = some (.map kt et)) (hd : P.underlying kt = some d)
    (hm : a.eval m = .map (some g)) {kv : Value} (hkv : a.eval k = kv) (hk : MapKept.IsKey d kv) (hb : W.heap[g]? = some (.map es c)) {z : Value} (hz : (zeroValue et).run P W = .ok z W) {r : Option (Nat × Value)} (hf : Instr.findNow d kv es.toList 0 = some r)
    (h : wpList P ops Q rest (a.put o.dst (looked z r)) W) : wpList P ops Q (o :: rest) a W := by
  refine Kd.event_run hgd (w1 := W) (v := looked z r) ?_ h
  unfold execOp
  rw [ho]
  simp only [hm, hkv]
  unfold Instr.lookup
  cases r with
  | none => simp [looked, Sem.run_bind, run_underlying ht, Result.andThen, MapKept.run_getObj_map hb, MapKept.run_checkKey hd hk _ 9999, MapKept.run_findKey hd hf, hz]
  | some q => simp [looked, Sem.run_bind, run_underlying ht, Result.andThen, MapKept.run_getObj_map hb, MapKept.run_checkKey hd hk _ 9999, MapKept.run_findKey hd hf]
/-- A call of a value that is a function, with what it has caught. -/
theorem goesV_ {w : World} (N : Option Tmp) (hd : o.dst = N) (hg : o.guard = none) {f : FuncId} {fn : Func} {p : Tmp} {ar : Array Operand} {ts : Array TypeId} {cap : Array Value} (hf : P.funcs[f]? = some fn) (hname : (fn.name == "runtime.NumGoroutine") = false) (hb : fn.body.isSome = true) (args : Array Value)
    (hop : o.op = .call { callee := .value (.tmp p), args := ar, argTypes := ts }) (hv : a.eval (.tmp p) = .func (.func f) #[] cap) (hargs : ar.map a.eval ++ cap = args)
    (h : Calls P f args w fun e w' => ∃ v, e = .returned v ∧ wpList P ops Q rest (a.put N v) w') : wpList P ops Q (o :: rest) a w := by
  refine wpList_plain hg fun K hK => ?_
  have he := enters_ hf hname hb args w
  have hrun : (execOp a.eval o).run P w = .ok (.enter f args) w := by
    unfold execOp
    rw [← hargs] at he ⊢
    simp [hop, resolve, Deferred.ofValue, invoke, hv, he]
  unfold Oper.wp
  rw [hrun, Oper.upon_enter]
  refine h.mono fun e w'' hh => ?_
  obtain ⟨v, rfl, hk⟩ := hh
  subst hd
  exact hK _ _ hk
theorem below_row {W : World} {B g : Nat} (hB : B ≤ g) (cs : Array Value) : Below B W (W.setRow g cs) :=
  ⟨rfl, rfl, rfl, by simp [World.setRow], fun k hk => by simp only [World.setRow]; rw [Array.getElem?_modify]; rw [if_neg (by omega)]⟩
/-- A whole struct, or array, is stored into a block of its own. -/
theorem wstore_event {W : World} (hgd : o.guard = none) {ty t : TypeId} {x y : Operand} (ho : o.op = .store ty x y) {g : Nat} {old cs : Array Value} (hx : a.eval x = .pointer (some ⟨g, 0, none⟩)) (hy : a.eval y = .agg cs)
    (hb : W.heap[g]? = some (.cells old t (0, 0))) (hi : (P.info? ty).map (·.size) = some cs.size) (hs : old.size = cs.size) (h1 : cs.all (·.oneCell') = true)
    (h : ∀ w1, w1.heap[g]? = some (.cells cs t (0, 0)) → (∀ B, B ≤ g → Below B W w1) → (∀ i, i ≠ g → w1.heap[i]? = W.heap[i]?) → wpList P ops Q rest (a.put o.dst undef) w1) : wpList P ops Q (o :: rest) a W := by
  refine wpList_plain hgd fun K hK => ?_
  unfold Oper.wp execOp
  rw [ho]
  simp only [hx, hy, Instr.storeAt, Instr.sureAddr, Sem.run_bind, Sem.run_pure, Result.andThen_ok, run_storeVar_row W g t ty old cs hb hi hs h1]
  refine hK _ _ (h _ (setRow_heap W g old cs t (0, 0) hb) (fun B hB => below_row hB cs) (fun i hi => ?_))
  simp only [World.setRow]
  rw [Array.getElem?_modify, if_neg (Ne.symm hi)]
/-- A whole struct, or array, is loaded. -/
theorem wload_event {W : World} (hgd : o.guard = none) {ty t : TypeId} {x : Operand} (ho : o.op = .load ty x) {g : Nat} {cs : Array Value} {fr : Nat × Nat} {d : TypeDesc} (hx : a.eval x = .pointer (some ⟨g, 0, none⟩)) (hb : W.heap[g]? = some (.cells cs t fr))
    (hu : P.underlying ty = some d) (hd : (match d with | .struct _ | .array _ _ => true | _ => false) = true) (hi : (P.info? ty).map (·.size) = some cs.size) (h : wpList P ops Q rest (a.put o.dst (.agg cs)) W) : wpList P ops Q (o :: rest) a W := by
  refine Kd.event_run hgd (w1 := W) (v := .agg cs) ?_ h
  unfold execOp
  rw [ho]
  simp only [hx, Instr.loadAt, Instr.sureAddr, Sem.run_bind, Sem.run_pure, Result.andThen_ok, run_loadVar_row W g t ty cs fr d hb hu hd hi]
/-- A literal slice. -/
theorem lit_event {W : World} (hgd : o.guard = none) {N : Tmp} (_hd : o.dst = some N) {cs : Array Value} {t : TypeId} {n m : Nat}
    (hrun : (execOp a.eval o).run P W = .ok (.value (.slice (some ⟨W.heap.size, 0, none⟩) n m)) (W.alloc (.cells cs t (0, 0))))
    (h : ∀ g, g = W.heap.size → ∀ w1, w1.heap[g]? = some (.cells cs t (0, 0)) → Below W.heap.size W w1 → wpList P ops Q rest (a.put o.dst (.slice (some ⟨g, 0, none⟩) n m)) w1) : wpList P ops Q (o :: rest) a W :=
  Kd.event_run hgd hrun (h _ rfl _ (blk_new W _) (below_alloc (Below.refl _ _) _))
end
theorem gate_world {X : Exit → Act → World → Prop} {e : Exit} {a : Act} {Wo : World} (P1 : World → Prop) (h1 : P1 Wo) (hk : ∀ W, P1 W → X e a W) : X e a Wo := hk _ h1
theorem gate_wp {P : Program} {c : Code} {Q : Exit → Act → World → Prop} {a : Act} {Wo : World} (P1 : World → Prop) (h1 : P1 Wo) (hk : ∀ W, P1 W → c.wp P Q a W) : c.wp P Q a Wo := hk _ h1
theorem gate_list {P : Program} {ops : Array Oper} {rest : List Oper} {Q : Exit → Act → World → Prop} {a : Act} {Wo : World} (P1 : World → Prop) (h1 : P1 Wo) (hk : ∀ W, P1 W → wpList P ops Q rest a W) : wpList P ops Q rest a Wo := hk _ h1
end Go.Proofs.Ev
