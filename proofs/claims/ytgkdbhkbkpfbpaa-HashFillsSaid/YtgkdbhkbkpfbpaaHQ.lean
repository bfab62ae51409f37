/- Blocks of a call's own: whole structs in the middle of a block, and the steps of a region that draws its order; no conditions beyond each theorem's own. -/
import Derived.Test.YtgkdbhkbkpfbpaaHP
import Derived.Test.YtgkdbhkbkpfbpaaPU
import Derived.Deep.MidRow
set_option linter.unusedVariables false
set_option linter.unusedSimpArgs false
namespace Go.Proofs.Hp
open Go.RowKit Go.Proofs.Ev Go.Proofs.YtgkdbhkbkpfbpaaW.PrintWords Go.Proofs.YtgkdbhkbkpfbpaaW.PrintLast Go.Proofs.YtgkdbhkbkpfbpaaW.PrintMore
/-- Values written into a row from a place on. -/
def putAt (cs : Array Value) (o : Nat) : List Value → Array Value
  | [] => cs
  | v :: vs => putAt (cs.setIfInBounds o v) (o + 1) vs
section
variable {w0 W : World} {L L' : Hl} {g : Nat}
theorem Own.setCells0 {t : TypeId} : ∀ (vs : List Value) (o : Nat) (cs : Array Value) (W : World), Own w0 W ((g, .cells cs t (0, 0)) :: L) → Own w0 (W.setCells g o vs) ((g, .cells (putAt cs o vs) t (0, 0)) :: L)
  | [], _, _, _, h => h
  | v :: vs, o, _, _, h => Own.setCells0 vs (o + 1) _ _ (h.setCell .head o v rfl)
theorem Own.setCells {cs cs' : Array Value} {t : TypeId} (h : Own w0 W L) (e : Ext L g (.cells cs t (0, 0)) L') (o : Nat) (vs : List Value) (hc : putAt cs o vs = cs') : Own w0 (W.setCells g o vs) ((g, .cells cs' t (0, 0)) :: L') :=
  hc ▸ Own.setCells0 vs o cs W (h.ext e)
theorem Own.range {cs : Array Value} {t : TypeId} (h : Own w0 W L) (e : Ext L g (.cells cs t (0, 0)) L') (o : Nat) (vs : List Value) (hv : (cs.toList.drop o).take vs.length = vs) : W.rangeAt g o vs := fun j v hj => by
  rw [h.cell e (o + j)]
  have h1 : ((cs.toList.drop o).take vs.length)[j]? = some v := by rw [hv]; exact hj
  have hl : j < vs.length := (List.getElem?_eq_some_iff.1 hj).1
  rw [List.getElem?_take, if_pos hl, List.getElem?_drop] at h1
  rw [← Array.getElem?_toList]
  exact h1
theorem Own.there {cs : Array Value} {t : TypeId} (h : Own w0 W L) (e : Ext L g (.cells cs t (0, 0)) L') (o n : Nat) (hn : o + n ≤ cs.size) : W.there g o n := fun j hj => ⟨by
  rw [h.cell e (o + j), Array.getElem?_eq_getElem (by omega)]; rfl, blk_frozen (h.get e) _⟩
end
section
variable {P : Program} {ops : Array Oper} {rest : List Oper} {o : Oper} {a : Act} {Q : Exit → Act → World → Prop} {Kc : Act → World → Prop} {w0 W : World} {L L' : Hl} {g : Nat}
theorem own_loadN (HO : Own w0 W L) (hgd : o.guard = none) {ty t : TypeId} {x : Operand} (ho : o.op = .load ty x) {cs : Array Value} {d : TypeDesc} {j : Nat} (hx : a.eval x = .pointer (some ⟨g, j, none⟩)) (he : Ext L g (.cells cs t (0, 0)) L') {vs : List Value}
    (hv : (cs.toList.drop j).take vs.length = vs) (hu : P.underlying ty = some d) (hd : d.isRow = true) (hi : (P.info? ty).map (·.size) = some vs.length) {va : Array Value} (hva : vs.toArray = va) (h : wpList P ops Q rest (a.put o.dst (.agg va)) W) : wpList P ops Q (o :: rest) a W :=
  wpList_load_mid hgd ty x ho g j hx vs d (HO.range he j vs hv) hu hd hi (hva ▸ h)
theorem own_storeN (HO : Own w0 W L) (hgd : o.guard = none) {ty t : TypeId} {x y : Operand} (ho : o.op = .store ty x y) {cs cs' vs : Array Value} {j : Nat} (hx : a.eval x = .pointer (some ⟨g, j, none⟩)) (hy : a.eval y = .agg vs) (he : Ext L g (.cells cs t (0, 0)) L')
    (hi : (P.info? ty).map (·.size) = some vs.size) (h1 : vs.all (·.oneCell') = true) (hn : j + vs.size ≤ cs.size) (hc : putAt cs j vs.toList = cs') (h : ∀ w1, Own w0 w1 ((g, .cells cs' t (0, 0)) :: L') → wpList P ops Q rest (a.put o.dst undef) w1) : wpList P ops Q (o :: rest) a W :=
  wpList_store_mid hgd ty x y ho g j vs hx hy (HO.there he j _ hn) hi h1 (h _ (HO.setCells he j vs.toList hc))
/-! ### In a region that draws its order -/
theorem own_yield1 (hw : Region.wanted o (yielded ops a.tmps) = true) {ty t : TypeId} {x : Operand} (ho : o.op = .load ty x) {cs : Array Value} {d : TypeDesc} {j : Nat} (hx : a.eval x = .pointer (some ⟨g, j, none⟩)) (he : Ext L g (.cells cs t (0, 0)) L')
    (hu : P.underlying ty = some d) (hd : (match d with | .struct _ | .array _ _ => true | _ => false) = false) {v : Value} (hc : cs[j]? = some v) : YieldsIf P ops (fun W => Own w0 W L) o v a :=
  .inl ⟨hw, fun w hS => by
    unfold execOp
    rw [ho]
    simp only [hx, Instr.loadAt, Instr.sureAddr, Sem.run_bind, Sem.run_pure, Result.andThen_ok, run_load1 hu hd (hS.get he) hc]⟩
theorem own_yieldN (hw : Region.wanted o (yielded ops a.tmps) = true) {ty t : TypeId} {x : Operand} (ho : o.op = .load ty x) {cs : Array Value} {d : TypeDesc} {j : Nat} (hx : a.eval x = .pointer (some ⟨g, j, none⟩)) (he : Ext L g (.cells cs t (0, 0)) L') {vs : List Value}
    (hv : (cs.toList.drop j).take vs.length = vs) (hu : P.underlying ty = some d) (hd : d.isRow = true) (hi : (P.info? ty).map (·.size) = some vs.length) {va : Array Value} (hva : vs.toArray = va) : YieldsIf P ops (fun W => Own w0 W L) o (.agg va) a :=
  hva ▸ yieldsIf_load_mid hw ty x ho g j hx vs d (fun w hS => Own.range hS he j vs hv) hu hd hi
theorem own_store_k (HO : Own w0 W L) (hw : Region.wanted o (yielded ops a.tmps) = true) (hN : o.dst = none) {ty t : TypeId} {x y : Operand} (ho : o.op = .store ty x y) {cs cs' : Array Value} {j : Nat} {v : Value} (hx : a.eval x = .pointer (some ⟨g, j, none⟩)) (hy : a.eval y = v)
    (he : Ext L g (.cells cs t (0, 0)) L') (hi : (P.info? ty).map (·.size) = some 1) (h1 : v.oneCell' = true) (hj : j < cs.size) (hc : cs.setIfInBounds j v = cs')
    (h : ∀ w1, Own w0 w1 ((g, .cells cs' t (0, 0)) :: L') → Kc a w1) : if Region.wanted o (yielded ops a.tmps) = true then Oper.wp P o a W Kc Q else Kc (a.put none undef) W := by
  have hq : ∀ w1, Kc a w1 → Kc (a.put o.dst undef) w1 := fun w1 h => by rw [hN]; exact h
  rw [if_pos hw]
  unfold Oper.wp execOp
  rw [ho]
  simp only [hx, hy, Instr.storeAt, Instr.sureAddr, Sem.run_bind, Sem.run_pure, Result.andThen_ok, run_store1 hi h1 (HO.get he) hj]
  exact hq _ (h _ (HO.setCell he j v hc))
theorem own_storeN_k (HO : Own w0 W L) (hw : Region.wanted o (yielded ops a.tmps) = true) (hN : o.dst = none) {ty t : TypeId} {x y : Operand} (ho : o.op = .store ty x y) {cs cs' vs : Array Value} {j : Nat} (hx : a.eval x = .pointer (some ⟨g, j, none⟩)) (hy : a.eval y = .agg vs) (he : Ext L g (.cells cs t (0, 0)) L')
    (hi : (P.info? ty).map (·.size) = some vs.size) (h1 : vs.all (·.oneCell') = true) (hn : j + vs.size ≤ cs.size) (hc : putAt cs j vs.toList = cs') (h : ∀ w1, Own w0 w1 ((g, .cells cs' t (0, 0)) :: L') → Kc a w1) :
    if Region.wanted o (yielded ops a.tmps) = true then Oper.wp P o a W Kc Q else Kc (a.put none undef) W := by
  have hq : ∀ w1, Kc a w1 → Kc (a.put o.dst undef) w1 := fun w1 h => by rw [hN]; exact h
  rw [if_pos hw]
  exact wp_store_mid ty x y ho g j vs hx hy (HO.there he j _ hn) hi h1 (hq _ (h _ (HO.setCells he j vs.toList hc)))
theorem own_box_k (HO : Own w0 W L) (hw : Region.wanted o (yielded ops a.tmps) = true) {N : Tmp} (hN : o.dst = some N) {cs : Array Value} {t : TypeId}
    (hrun : (execOp a.eval o).run P W = .ok (.value (.pointer (some ⟨W.heap.size, 0, none⟩))) (W.alloc (.cells cs t (0, 0))))
    (h : ∀ g w1, Own w0 w1 ((g, .cells cs t (0, 0)) :: L) → Kc (a.put (some N) (.pointer (some ⟨g, 0, none⟩))) w1) : if Region.wanted o (yielded ops a.tmps) = true then Oper.wp P o a W Kc Q else Kc (a.put (some N) undef) W := by
  rw [← hN] at h ⊢
  exact event_step hw hrun (h _ _ (HO.alloc _))
/-! ### The same steps in few signs: what they ask is found -/
theorem reg_ {id : Nat} {a : Act} {w : World} (HO : Own w0 w L) (n : Nat) (ds : List Nat) (h : ∀ wr, Own w0 wr L → wpAnyLast P .any ops Q (fun W => Own w0 W L) ds n (Array.replicate n false) a wr) (hm : P.follows .mixedOrders = true := by kernel_rfl) (hn : ops.size = n := by rfl) :
    (Code.region id ops true).wp P Q a w := start_ (Array.replicate n false) hm hn rfl HO.drew (fun hS => h _ hS)
def aRow : TypeDesc → Bool
  | .struct _ => true
  | .array _ _ => true
  | _ => false
theorem tk1_ {md : Region.Mode} {ds : List Nat} {fuel : Nat} {l : Array Bool} {w : World} {oi : Oper} {a' : Act} {ty t : TypeId} {cs : Array Value} {d : TypeDesc} {j : Nat} {v : Value} (i : Nat) (N : Tmp) (l' : Array Bool) (x : Tmp) (hu : P.underlying ty = some d) (he : Ext L g (.cells cs t (0, 0)) L') (hS : Own w0 w L)
    (h : wpAnyLast P md ops Q (fun W => Own w0 W L) ds fuel l' a' w) (hi : ops[i]? = some oi := by rfl) (hN : oi.dst = some N := by rfl) (hc : takeB md ops ds l l' i = true := by kernel_rfl) (hQ : ∀ c a w, Q (.panic c) (a.put oi.dst v) w → Q (.panic c) a w := by exact fun _ _ _ h => h)
    (hw : Region.wanted oi (yielded ops a.tmps) = true := by rfl) (ho : oi.op = .load ty (.tmp x) := by rfl) (hx : a.eval (.tmp x) = .pointer (some ⟨g, j, none⟩) := by rfl) (hd : aRow d = false := by rfl) (hv : cs[j]? = some v := by rfl)
    (ha : a.put (some N) v = a' := by (simp only [Act.put, List.setIfInBounds_toArray, List.set_cons_zero, List.set_cons_succ, i64_w, i32_w]; rfl)) : wpAnyLast P md ops Q (fun W => Own w0 W L) ds (fuel + 1) l a w :=
  take_ l' hi hN hc hQ (own_yield1 hw ho hx he hu (by cases d <;> first | rfl | (simp [aRow] at hd)) hv) hS ha h
theorem tkN_ {md : Region.Mode} {ds : List Nat} {fuel : Nat} {l : Array Bool} {w : World} {oi : Oper} {a' : Act} {ty t : TypeId} {cs : Array Value} {d : TypeDesc} {j : Nat} (i : Nat) (N : Tmp) (l' : Array Bool) (x : Tmp) (vs : List Value) (hu : P.underlying ty = some d) (he : Ext L g (.cells cs t (0, 0)) L') (hS : Own w0 w L)
    (h : wpAnyLast P md ops Q (fun W => Own w0 W L) ds fuel l' a' w) (hi : ops[i]? = some oi := by rfl) (hN : oi.dst = some N := by rfl) (hc : takeB md ops ds l l' i = true := by kernel_rfl) (hQ : ∀ c a w, Q (.panic c) (a.put oi.dst (.agg vs.toArray)) w → Q (.panic c) a w := by exact fun _ _ _ h => h)
    (hw : Region.wanted oi (yielded ops a.tmps) = true := by rfl) (ho : oi.op = .load ty (.tmp x) := by rfl) (hx : a.eval (.tmp x) = .pointer (some ⟨g, j, none⟩) := by rfl) (hv : (cs.toList.drop j).take vs.length = vs := by rfl) (hd : d.isRow = true := by rfl) (hz : (P.info? ty).map (·.size) = some vs.length := by kernel_rfl)
    (ha : a.put (some N) (.agg vs.toArray) = a' := by (simp only [Act.put, List.setIfInBounds_toArray, List.set_cons_zero, List.set_cons_succ, i64_w, i32_w]; rfl)) : wpAnyLast P md ops Q (fun W => Own w0 W L) ds (fuel + 1) l a w :=
  take_ l' hi hN hc hQ (own_yieldN hw ho hx he hv hu hd hz rfl) hS ha h
/-- A cell is stored, and nothing is held behind it. -/
theorem sl1_ {md : Region.Mode} {S : World → Prop} {ds : List Nat} {fuel : Nat} {l : Array Bool} {w : World} {oi : Oper} {ty t : TypeId} {cs cs' : Array Value} {j : Nat} (HO : Own w0 w L) (i : Nat) (l' : Array Bool) (x : Tmp) (y : Operand) (v : Value) (he : Ext L g (.cells cs t (0, 0)) L')
    (h : ∀ w1, Own w0 w1 ((g, .cells cs' t (0, 0)) :: L') → wpAnyLast P md ops Q S ds fuel l' a w1) (hi : ops[i]? = some oi := by rfl) (hN : oi.dst = none := by rfl) (hc : readyB md ops l l' i = true := by kernel_rfl) (hds : i ∈ ds := by decide)
    (hw : Region.wanted oi (yielded ops a.tmps) = true := by rfl) (ho : oi.op = .store ty (.tmp x) y := by rfl) (hx : a.eval (.tmp x) = .pointer (some ⟨g, j, none⟩) := by rfl) (hy : a.eval y = v := by rfl) (hz : (P.info? ty).map (·.size) = some 1 := by kernel_rfl) (h1 : v.oneCell' = true := by rfl) (hj : j < cs.size := by (first | decide | (simp; done)))
    (hcs : cs.setIfInBounds j v = cs' := by (simp only [List.setIfInBounds_toArray, List.set_cons_zero, List.set_cons_succ]; rfl)) : wpAnyLast P md ops Q S ds (fuel + 1) l a w :=
  last_ l' hi hN hc hds (fun K hK => own_store_k HO hw hN ho hx hy he hz h1 hj hcs (fun w1 hO => hK.out _ _ (h w1 hO)))
theorem slN_ {md : Region.Mode} {S : World → Prop} {ds : List Nat} {fuel : Nat} {l : Array Bool} {w : World} {oi : Oper} {ty t : TypeId} {cs cs' : Array Value} {j : Nat} (HO : Own w0 w L) (i : Nat) (l' : Array Bool) (x : Tmp) (y : Operand) (vs : Array Value) (he : Ext L g (.cells cs t (0, 0)) L')
    (h : ∀ w1, Own w0 w1 ((g, .cells cs' t (0, 0)) :: L') → wpAnyLast P md ops Q S ds fuel l' a w1) (hi : ops[i]? = some oi := by rfl) (hN : oi.dst = none := by rfl) (hc : readyB md ops l l' i = true := by kernel_rfl) (hds : i ∈ ds := by decide)
    (hw : Region.wanted oi (yielded ops a.tmps) = true := by rfl) (ho : oi.op = .store ty (.tmp x) y := by rfl) (hx : a.eval (.tmp x) = .pointer (some ⟨g, j, none⟩) := by rfl) (hy : a.eval y = .agg vs := by rfl) (hz : (P.info? ty).map (·.size) = some vs.size := by kernel_rfl) (h1 : vs.all (·.oneCell') = true := by kernel_rfl) (hn : j + vs.size ≤ cs.size := by (first | decide | (simp; done)))
    (hcs : putAt cs j vs.toList = cs' := by (simp only [putAt, List.setIfInBounds_toArray, List.set_cons_zero, List.set_cons_succ]; rfl)) : wpAnyLast P md ops Q S ds (fuel + 1) l a w :=
  last_ l' hi hN hc hds (fun K hK => own_storeN_k HO hw hN ho hx hy he hz h1 hn hcs (fun w1 hO => hK.out _ _ (h w1 hO)))
end
theorem results_cct {P : Program} {fn : Func} {p p' u : Tmp} {ty ty' : TypeId} (h : fn.results = #[.cell p ty, .cell p' ty', .tmp u]) (tmps : Array Value) (w : World) (g g' : Nat) (t t' : TypeId) (cs cs' : Array Value) (fr fr' : Nat × Nat) (d d' : TypeDesc)
    (hp : tmps.getD p undef = .pointer (some ⟨g, 0, none⟩)) (hg : w.heap[g]? = some (.cells cs t fr))
    (hu : P.underlying ty = some d) (hd : (match d with | .struct _ | .array _ _ => true | _ => false) = true) (hi : (P.info? ty).map (·.size) = some cs.size)
    (hp' : tmps.getD p' undef = .pointer (some ⟨g', 0, none⟩)) (hg' : w.heap[g']? = some (.cells cs' t' fr'))
    (hu' : P.underlying ty' = some d') (hd' : (match d' with | .struct _ | .array _ _ => true | _ => false) = true) (hi' : (P.info? ty').map (·.size) = some cs'.size) :
    (results fn tmps).run P w = .ok (.tuple #[.agg cs, .agg cs', tmps.getD u undef]) w := by
  have e1 : tmps[p]?.getD undef = .pointer (some ⟨g, 0, none⟩) := by simpa using hp
  have e2 : tmps[p']?.getD undef = .pointer (some ⟨g', 0, none⟩) := by simpa using hp'
  simp [results, h, e1, e2, asAddr, run_loadVar_row w g t ty cs fr d hg hu hd hi, run_loadVar_row w g' t' ty' cs' fr' d' hg' hu' hd' hi']
end Go.Proofs.Hp
