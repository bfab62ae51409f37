/- Blocks of a call's own kept as one list with one word for all of them (Own), and the steps of a walk that turn it; no conditions beyond each theorem's own. -/
import Derived.Test.YtgkdbhkbkpfbpaaEV
import Derived.Shelf.Abstract
import Derived.Maps.RangeRun
set_option linter.unusedVariables false
set_option linter.unusedSimpArgs false
namespace Go.Proofs.Hp
open Go.RowKit Go.Proofs.Ev Go.Proofs.YtgkdbhkbkpfbpaaW.PrintWords Go.Proofs.YtgkdbhkbkpfbpaaW.PrintLast Go.Proofs.YtgkdbhkbkpfbpaaW.PrintMore
abbrev Hl := List (Nat × Obj)
/-- In W, which grew out of w0, lie these blocks, made since; all elder blocks are as they were. -/
structure Own (w0 W : World) (L : Hl) : Prop where
  bel : Below w0.heap.size w0 W
  blk : ∀ p, p ∈ L → W.heap[p.1]? = some p.2
  fresh : ∀ p, p ∈ L → w0.heap.size ≤ p.1
  nd : (L.map Prod.fst).Nodup
/-- One block, and the others. -/
inductive Ext : Hl → Nat → Obj → Hl → Prop
  | head {g : Nat} {o : Obj} {L : Hl} : Ext ((g, o) :: L) g o L
  | tail {p : Nat × Obj} {g : Nat} {o : Obj} {L L' : Hl} (h : Ext L g o L') : Ext (p :: L) g o (p :: L')
theorem Ext.perm {L L' : Hl} {g : Nat} {o : Obj} (h : Ext L g o L') : L.Perm ((g, o) :: L') := by
  induction h with
  | head => exact List.Perm.refl _
  | tail h ih => exact (List.Perm.cons _ ih).trans (List.Perm.swap _ _ _)
section
variable {w0 W W1 : World} {L L' : Hl} {g : Nat} {ob ob' : Obj}
theorem Own.refl (w : World) : Own w w [] := ⟨Below.refl _ _, fun p h => (by cases h), fun p h => (by cases h), List.nodup_nil⟩
theorem Own.perm (h : Own w0 W L) (p : L.Perm L') : Own w0 W L' :=
  ⟨h.bel, fun q hq => h.blk q (p.mem_iff.2 hq), fun q hq => h.fresh q (p.mem_iff.2 hq), (p.map Prod.fst).nodup_iff.1 h.nd⟩
theorem Own.ext (h : Own w0 W L) (e : Ext L g ob L') : Own w0 W ((g, ob) :: L') := h.perm e.perm
theorem Own.front (h : Own w0 W L) (e : Ext L g ob L') : ∃ L1, Own w0 W ((g, ob) :: L1) := ⟨L', h.ext e⟩
theorem Own.get (h : Own w0 W L) (e : Ext L g ob L') : W.heap[g]? = some ob := h.blk (g, ob) (e.perm.mem_iff.2 (List.mem_cons_self ..))
theorem Own.ge (h : Own w0 W L) (e : Ext L g ob L') : w0.heap.size ≤ g := h.fresh (g, ob) (e.perm.mem_iff.2 (List.mem_cons_self ..))
theorem Own.cell {cs : Array Value} {t : TypeId} (h : Own w0 W L) (e : Ext L g (.cells cs t (0, 0)) L') (j : Nat) : W.cell? ⟨g, j, none⟩ = cs[j]? := blk_cell (h.get e) j
theorem Own.drop {p : Nat × Obj} (h : Own w0 W (p :: L)) : Own w0 W L :=
  ⟨h.bel, fun q hq => h.blk q (List.mem_cons_of_mem _ hq), fun q hq => h.fresh q (List.mem_cons_of_mem _ hq), (List.nodup_cons.1 h.nd).2⟩
theorem Own.dropAll (h : Own w0 W L) : Own w0 W [] := ⟨h.bel, fun p h => (by cases h), fun p h => (by cases h), List.nodup_nil⟩
theorem Own.drew (h : Own w0 W L) : Own w0 W.drew L := ⟨h.bel.drew, h.blk, h.fresh, h.nd⟩
theorem Own.drewN (h : Own w0 W L) (n : Nat) : Own w0 (W.drewN n) L := ⟨⟨h.bel.os, h.bel.tape, h.bel.output, h.bel.size, h.bel.block⟩, h.blk, h.fresh, h.nd⟩
theorem Own.below (h : Own w0 W L) (hb : Below W.heap.size W W1) : Own w0 W1 L :=
  ⟨below_step h.bel hb, fun p hp => blk_below (h.blk p hp) hb, h.fresh, h.nd⟩
theorem Own.new (h : Own w0 W L) (hb : Below W.heap.size W W1) (hg : W.heap.size ≤ g) (ho : W1.heap[g]? = some ob) : Own w0 W1 ((g, ob) :: L) := by
  refine ⟨below_step h.bel hb, ?_, ?_, ?_⟩
  · intro p hp
    rcases List.mem_cons.1 hp with rfl | hp
    · exact ho
    · exact blk_below (h.blk p hp) hb
  · intro p hp
    rcases List.mem_cons.1 hp with rfl | hp
    · exact Nat.le_trans h.bel.size hg
    · exact h.fresh p hp
  · refine List.nodup_cons.2 ⟨fun hm => ?_, h.nd⟩
    obtain ⟨p, hp, e⟩ := List.mem_map.1 hm
    have := blk_lt (h.blk p hp)
    have e' : p.1 = g := e
    omega
theorem Own.alloc (h : Own w0 W L) (o : Obj) : Own w0 (W.alloc o) ((W.heap.size, o) :: L) := h.new (below_alloc (Below.refl _ _) _) (Nat.le_refl _) (blk_new W o)
/-- A block is turned. -/
theorem Own.put (h : Own w0 W L) (e : Ext L g ob L') (h1 : W1.heap[g]? = some ob') (h2 : ∀ i, i ≠ g → W1.heap[i]? = W.heap[i]?) (h3 : ∀ B, B ≤ g → Below B W W1) : Own w0 W1 ((g, ob') :: L') := by
  have k := h.ext e
  have hn := List.nodup_cons.1 k.nd
  refine ⟨k.bel.trans (h3 _ (h.ge e)), ?_, ?_, k.nd⟩
  · intro p hp
    rcases List.mem_cons.1 hp with rfl | hp
    · exact h1
    · rw [h2 p.1 (fun he => hn.1 (List.mem_map.2 ⟨p, hp, he⟩))]
      exact k.blk p (List.mem_cons_of_mem _ hp)
  · intro p hp
    rcases List.mem_cons.1 hp with rfl | hp
    · exact h.ge e
    · exact k.fresh p (List.mem_cons_of_mem _ hp)
theorem Own.setCell {cs : Array Value} {t : TypeId} (h : Own w0 W L) (e : Ext L g (.cells cs t (0, 0)) L') (j : Nat) (v : Value) {cs' : Array Value} (hc : cs.setIfInBounds j v = cs') : Own w0 (W.setCell ⟨g, j, none⟩ v) ((g, .cells cs' t (0, 0)) :: L') :=
  h.put e (hc ▸ blk_set (h.get e) j v) (fun i hi => Below.heap_setCell _ _ _ _ hi) (fun B hB => (Below.refl _ _).setCell hB _)
theorem Own.toBelow (h : Own w0 W L) : Below w0.heap.size w0 W := h.bel
/-- What is known ahead of a call's own world. -/
theorem Own.here (w : World) {L : Hl} (h : Own w0 w L) : Own w0 w L := h
end
section
variable {P : Program} {ops : Array Oper} {rest : List Oper} {o : Oper} {a : Act} {Q : Exit → Act → World → Prop} {w0 W : World} {L L' : Hl} {g : Nat}
theorem own_box (HO : Own w0 W L) (hgd : o.guard = none) {N : Tmp} (hd : o.dst = some N) {cs : Array Value} {t : TypeId}
    (hrun : (execOp a.eval o).run P W = .ok (.value (.pointer (some ⟨W.heap.size, 0, none⟩))) (W.alloc (.cells cs t (0, 0))))
    (h : ∀ g w1, Own w0 w1 ((g, .cells cs t (0, 0)) :: L) → wpList P ops Q rest (a.put o.dst (.pointer (some ⟨g, 0, none⟩))) w1) : wpList P ops Q (o :: rest) a W :=
  box_event hgd hd hrun (fun g hg w1 hx hb => h g w1 (HO.new hb (by omega) hx))
theorem own_lit (HO : Own w0 W L) (hgd : o.guard = none) {N : Tmp} (hd : o.dst = some N) {cs : Array Value} {t : TypeId} {n m : Nat}
    (hrun : (execOp a.eval o).run P W = .ok (.value (.slice (some ⟨W.heap.size, 0, none⟩) n m)) (W.alloc (.cells cs t (0, 0))))
    (h : ∀ g w1, Own w0 w1 ((g, .cells cs t (0, 0)) :: L) → wpList P ops Q rest (a.put o.dst (.slice (some ⟨g, 0, none⟩) n m)) w1) : wpList P ops Q (o :: rest) a W :=
  lit_event hgd hd hrun (fun g hg w1 hx hb => h g w1 (HO.new hb (by omega) hx))
theorem own_mkmap (HO : Own w0 W L) (hgd : o.guard = none) {N : Tmp} (hd : o.dst = some N) {t : TypeId} (ho : o.op = .makeMap t none)
    (h : ∀ g w1, Own w0 w1 ((g, .map #[] 0) :: L) → wpList P ops Q rest (a.put o.dst (.map (some g))) w1) : wpList P ops Q (o :: rest) a W :=
  mkmap_event hgd hd ho (fun g hg w1 hx hb => h g w1 (HO.new hb (by omega) hx))
theorem own_insert (HO : Own w0 W L) (hgd : o.guard = none) {t kt et : TypeId} {m k x : Operand} (ho : o.op = .insert t m k x) {d : TypeDesc} {c : Nat} {es : Array MapEntry} (ht : P.underlying t = some (.map kt et)) (hd : P.underlying kt = some d)
    (hm : a.eval m = .map (some g)) (he : Ext L g (.map es c) L') {kv xv : Value} (hkv : a.eval k = kv) (hxv : a.eval x = xv) (hk : MapKept.IsKey d kv) (hf : Instr.findNow d kv es.toList 0 = some none) {es' : Array MapEntry} (hes : es.push { key := kv, val := xv, born := c } = es') {c' : Nat} (hc : c + 1 = c')
    (h : ∀ w1, Own w0 w1 ((g, .map es' c') :: L') → wpList P ops Q rest (a.put o.dst undef) w1) : wpList P ops Q (o :: rest) a W := by
  subst hkv
  subst hxv
  subst hes
  subst hc
  exact insert_event2 hgd ho ht hd hm hk (HO.get he) hf (fun w1 h1 h2 h3 => h w1 (HO.put he h1 h3 h2))
theorem own_lookup (HO : Own w0 W L) (hgd : o.guard = none) {t kt et : TypeId} {m k : Operand} (ho : o.op = .lookup t m k true) {d : TypeDesc} {c : Nat} {es : Array MapEntry} (ht : P.underlying t = some (.map kt et)) (hd : P.underlying kt = some d)
    (hm : a.eval m = .map (some g)) {kv : Value} (hkv : a.eval k = kv) (hk : MapKept.IsKey d kv) (he : Ext L g (.map es c) L') {z : Value} (hz : (zeroValue et).run P W = .ok z W) {r : Option (Nat × Value)} (hf : Instr.findNow d kv es.toList 0 = some r) {v : Value} (hv : looked z r = v)
    (h : wpList P ops Q rest (a.put o.dst v) W) : wpList P ops Q (o :: rest) a W :=
  lookup_event hgd ho ht hd hm hkv hk (HO.get he) hz hf (hv ▸ h)
/-- What a look-up without 'ok' tells. -/
def looked1 (z : Value) : Option (Nat × Value) → Value
  | some q => q.2
  | none => z
theorem lookup1_event {W : World} (hgd : o.guard = none) {t kt et : TypeId} {m k : Operand} (ho : o.op = .lookup t m k false) {d : TypeDesc} {g c : Nat} {es : Array MapEntry} (ht : P.underlying t = some (.map kt et)) (hd : P.underlying kt = some d)
    (hm : a.eval m = .map (some g)) {kv : Value} (hkv : a.eval k = kv) (hk : MapKept.IsKey d kv) (hb : W.heap[g]? = some (.map es c)) {z : Value} (hz : (zeroValue et).run P W = .ok z W) {r : Option (Nat × Value)} (hf : Instr.findNow d kv es.toList 0 = some r)
    (h : wpList P ops Q rest (a.put o.dst (looked1 z r)) W) : wpList P ops Q (o :: rest) a W := by
  refine Kd.event_run hgd (w1 := W) (v := looked1 z r) ?_ h
  unfold execOp
  rw [ho]
  simp only [hm, hkv]
  unfold Instr.lookup
  cases r with
  | none => simp [looked1, Sem.run_bind, run_underlying ht, Result.andThen, MapKept.run_getObj_map hb, MapKept.run_checkKey hd hk _ 9999, MapKept.run_findKey hd hf, hz]
  | some q => simp [looked1, Sem.run_bind, run_underlying ht, Result.andThen, MapKept.run_getObj_map hb, MapKept.run_checkKey hd hk _ 9999, MapKept.run_findKey hd hf]
theorem own_lookup1 (HO : Own w0 W L) (hgd : o.guard = none) {t kt et : TypeId} {m k : Operand} (ho : o.op = .lookup t m k false) {d : TypeDesc} {c : Nat} {es : Array MapEntry} (ht : P.underlying t = some (.map kt et)) (hd : P.underlying kt = some d)
    (hm : a.eval m = .map (some g)) {kv : Value} (hkv : a.eval k = kv) (hk : MapKept.IsKey d kv) (he : Ext L g (.map es c) L') {z : Value} (hz : (zeroValue et).run P W = .ok z W) {r : Option (Nat × Value)} (hf : Instr.findNow d kv es.toList 0 = some r) {v : Value} (hv : looked1 z r = v)
    (h : wpList P ops Q rest (a.put o.dst v) W) : wpList P ops Q (o :: rest) a W :=
  lookup1_event hgd ho ht hd hm hkv hk (HO.get he) hz hf (hv ▸ h)
theorem own_wstore (HO : Own w0 W L) (hgd : o.guard = none) {ty t : TypeId} {x y : Operand} (ho : o.op = .store ty x y) {old cs : Array Value} (hx : a.eval x = .pointer (some ⟨g, 0, none⟩)) (hy : a.eval y = .agg cs)
    (he : Ext L g (.cells old t (0, 0)) L') (hi : (P.info? ty).map (·.size) = some cs.size) (hs : old.size = cs.size) (h1 : cs.all (·.oneCell') = true)
    (h : ∀ w1, Own w0 w1 ((g, .cells cs t (0, 0)) :: L') → wpList P ops Q rest (a.put o.dst undef) w1) : wpList P ops Q (o :: rest) a W :=
  wstore_event hgd ho hx hy (HO.get he) hi hs h1 (fun w1 k1 k2 k3 => h w1 (HO.put he k1 k3 k2))
theorem own_wload (HO : Own w0 W L) (hgd : o.guard = none) {ty t : TypeId} {x : Operand} (ho : o.op = .load ty x) {cs : Array Value} {d : TypeDesc} (hx : a.eval x = .pointer (some ⟨g, 0, none⟩)) (he : Ext L g (.cells cs t (0, 0)) L')
    (hu : P.underlying ty = some d) (hd : (match d with | .struct _ | .array _ _ => true | _ => false) = true) (hi : (P.info? ty).map (·.size) = some cs.size) (h : wpList P ops Q rest (a.put o.dst (.agg cs)) W) : wpList P ops Q (o :: rest) a W :=
  wload_event hgd ho hx (HO.get he) hu hd hi h
theorem run_load1 {W : World} {ty t : TypeId} {d : TypeDesc} {cs : Array Value} {fr : Nat × Nat} {j : Nat} {v : Value} (hu : P.underlying ty = some d) (hd : (match d with | .struct _ | .array _ _ => true | _ => false) = false) (hb : W.heap[g]? = some (.cells cs t fr)) (hc : cs[j]? = some v) :
    (loadVar ty ⟨g, j, none⟩).run P W = .ok v W := by
  unfold loadVar
  have h2 : W.cell? ⟨g, j, none⟩ = some v := (cell_of_row W g j cs t fr hb).trans hc
  simp [Sem.run_bind, run_isAgg_plain hu hd, Result.andThen, h2]
theorem own_load (HO : Own w0 W L) (hgd : o.guard = none) {ty t : TypeId} {x : Operand} (ho : o.op = .load ty x) {cs : Array Value} {d : TypeDesc} {j : Nat} (hx : a.eval x = .pointer (some ⟨g, j, none⟩)) (he : Ext L g (.cells cs t (0, 0)) L')
    (hu : P.underlying ty = some d) (hd : (match d with | .struct _ | .array _ _ => true | _ => false) = false) {v : Value} (hc : cs[j]? = some v) (h : wpList P ops Q rest (a.put o.dst v) W) : wpList P ops Q (o :: rest) a W := by
  refine Kd.event_run hgd (w1 := W) (v := v) ?_ h
  unfold execOp
  rw [ho]
  simp only [hx, Instr.loadAt, Instr.sureAddr, Sem.run_bind, Sem.run_pure, Result.andThen_ok, run_load1 hu hd (HO.get he) hc]
theorem run_store1 {W : World} {ty t : TypeId} {cs : Array Value} {j : Nat} {v : Value} (hi : (P.info? ty).map (·.size) = some 1) (h1 : v.oneCell' = true) (hb : W.heap[g]? = some (.cells cs t (0, 0))) (hj : j < cs.size) :
    (storeVar ty ⟨g, j, none⟩ v).run P W = .ok () (W.setCell ⟨g, j, none⟩ v) := by
  have h2 : W.cell? ⟨g, j, none⟩ = some cs[j] := (cell_of_row W g j cs t (0, 0) hb).trans (Array.getElem?_eq_getElem hj)
  have hc : v.cells = #[v] := by cases v <;> first | rfl | cases h1
  have hf : W.frozen? ⟨g, j, none⟩ = false := blk_frozen hb j
  obtain ⟨i, hi1, hi2⟩ : ∃ i, P.info? ty = some i ∧ i.size = 1 := by
    cases hq : P.info? ty with
    | none => rw [hq] at hi; simp at hi
    | some i => exact ⟨i, rfl, by rw [hq] at hi; simpa using hi⟩
  have hs : (sizeOf ty).run P W = .ok 1 W := by
    have := run_sizeOf W hi1
    rw [this]
    simp [Program.cellsOf, hi1, hi2]
  unfold storeVar
  simp only [hc, Sem.run_bind, hs, Result.andThen]
  have ha : (⟨g, j, none⟩ : Addr).add 0 = ⟨g, j, none⟩ := rfl
  simp only [storeCells, ha]
  cases v <;> first | (cases h1; done) | simp [store, Sem.run, h2, hf, Sem.run_bind, Result.andThen]
theorem own_store (HO : Own w0 W L) (hgd : o.guard = none) {ty t : TypeId} {x y : Operand} (ho : o.op = .store ty x y) {cs cs' : Array Value} {j : Nat} {v : Value} (hx : a.eval x = .pointer (some ⟨g, j, none⟩)) (hy : a.eval y = v)
    (he : Ext L g (.cells cs t (0, 0)) L') (hi : (P.info? ty).map (·.size) = some 1) (h1 : v.oneCell' = true) (hj : j < cs.size) (hc : cs.setIfInBounds j v = cs')
    (h : ∀ w1, Own w0 w1 ((g, .cells cs' t (0, 0)) :: L') → wpList P ops Q rest (a.put o.dst undef) w1) : wpList P ops Q (o :: rest) a W := by
  refine wpList_plain hgd fun K hK => ?_
  unfold Oper.wp execOp
  rw [ho]
  simp only [hx, hy, Instr.storeAt, Instr.sureAddr, Sem.run_bind, Sem.run_pure, Result.andThen_ok, run_store1 hi h1 (HO.get he) hj]
  exact hK _ _ (h _ (HO.setCell he j v hc))
end
/-- A look into a list of entries whose keys are whole numbers. -/
def findI (x : Int) : List (Int × Value × Nat) → Nat → Option (Nat × Value)
  | [], _ => none
  | e :: es, i => if x = e.1 then some (i, e.2.1) else findI x es (i + 1)
theorem findNow_ints (k : IntKind) (x : Int) : ∀ (l : List (Int × Value × Nat)) (i : Nat), Instr.findNow (.int k) (.int k x) (l.map fun e => ⟨.int k e.1, e.2.1, e.2.2⟩) i = some (findI x l i)
  | [], i => rfl
  | e :: es, i => by
    have ih := findNow_ints k x es (i + 1)
    simp only [List.map_cons, Instr.findNow, findI]
    have hs : Instr.sameNow (.int k) (.int k x) (.int k e.1) = some (x == e.1) := by simp [Instr.sameNow]
    rw [hs]
    by_cases h : x = e.1
    · have : (x == e.1) = true := beq_iff_eq.mpr h
      rw [this, if_pos h]
    · have : (x == e.1) = false := beq_eq_false_iff_ne.mpr h
      rw [this, if_neg h]
      exact ih
/-- Some of the blocks, in another order. -/
inductive Picks : Hl → Hl → Prop
  | nil {L : Hl} : Picks L []
  | cons {L L1 L' : Hl} {g : Nat} {o : Obj} (e : Ext L g o L1) (h : Picks L1 L') : Picks L ((g, o) :: L')
theorem Own.picks {w0 W : World} : ∀ {L L' : Hl}, Own w0 W L → Picks L L' → Own w0 W L'
  | _, _, h, .nil => h.dropAll
  | _, _, h, .cons e k => by
    have h1 := h.ext e
    have h2 := Own.picks h1.drop k
    refine ⟨h1.bel, ?_, ?_, ?_⟩
    · intro p hp
      rcases List.mem_cons.1 hp with rfl | hp
      · exact h1.blk _ (List.mem_cons_self ..)
      · exact h2.blk p hp
    · intro p hp
      rcases List.mem_cons.1 hp with rfl | hp
      · exact h1.fresh _ (List.mem_cons_self ..)
      · exact h2.fresh p hp
    · refine List.nodup_cons.2 ⟨fun hm => ?_, h2.nd⟩
      have hn := (List.nodup_cons.1 h1.nd).1
      obtain ⟨p, hp, he⟩ := List.mem_map.1 hm
      exact hn (List.mem_map.2 ⟨p, Picks.sub k p hp, he⟩)
where Picks.sub : ∀ {L L' : Hl}, Picks L L' → ∀ p, p ∈ L' → p ∈ L
  | _, _, .nil, p, h => by cases h
  | _, _, .cons e k, p, h => by
    rcases List.mem_cons.1 h with rfl | h
    · exact e.perm.mem_iff.2 (List.mem_cons_self ..)
    · exact e.perm.mem_iff.2 (List.mem_cons_of_mem _ (Picks.sub k p h))
/-- What a callee made, beside what was there. -/
theorem Own.join {w0 W W1 : World} {L M : Hl} (h : Own w0 W L) (k : Own W W1 M) : Own w0 W1 (L ++ M) := by
  refine ⟨below_step h.bel k.bel, ?_, ?_, ?_⟩
  · intro p hp
    rcases List.mem_append.1 hp with hp | hp
    · exact blk_below (h.blk p hp) k.bel
    · exact k.blk p hp
  · intro p hp
    rcases List.mem_append.1 hp with hp | hp
    · exact h.fresh p hp
    · exact Nat.le_trans h.bel.size (k.fresh p hp)
  · rw [List.map_append]
    refine List.nodup_append.2 ⟨h.nd, k.nd, ?_⟩
    intro a ha b hb e
    obtain ⟨p, hp, rfl⟩ := List.mem_map.1 ha
    obtain ⟨q, hq, rfl⟩ := List.mem_map.1 hb
    have h1 := blk_lt (h.blk p hp)
    have h2 := k.fresh q hq
    omega
theorem Own.get_mem {w0 W : World} {L : Hl} {g : Nat} {o : Obj} (h : Own w0 W L) (m : (g, o) ∈ L) : W.heap[g]? = some o := h.blk _ m
theorem Own.ge_mem {w0 W : World} {L : Hl} {g : Nat} {o : Obj} (h : Own w0 W L) (m : (g, o) ∈ L) : w0.heap.size ≤ g := h.fresh _ m
/-- A row of whole numbers, read as the print reads it. -/
theorem R_row {k : IntKind} {e : TypeId} {w : World} {base g : Nat} (l : List Int) (hb : w.heap[g]? = some (.cells (l.map (Value.int k)).toArray e (0, 0))) (hg : base ≤ g) (hn : l.length ≤ 9223372036854775807) :
    Kd.R (Kd.int k) e w base (fun _ => True) (.slice (some ⟨g, 0, none⟩) l.length l.length) l := by
  refine Kd.R_of_own (enc := Value.int k) ⟨by simp [encs], .inr ⟨g, l.length, _, rfl, hg, hb, Nat.le_refl _, hn, by simp, ?_⟩⟩ (fun k hk => trivial)
  show List.take (l.length * 1) (l.map (Value.int k)) = l.map (Value.int k)
  exact List.take_of_length_le (by simp)
section
variable {P : Program} {ops : Array Oper} {rest : List Oper} {o : Oper} {a : Act} {Q : Exit → Act → World → Prop} {w0 W : World} {L L' : Hl} {g : Nat}
theorem own_range (HO : Own w0 W L) (hgd : o.guard = none) {N : Tmp} (_hd : o.dst = some N) {t kt et : TypeId} {m : Operand} (ho : o.op = .range t m) (ht : P.underlying t = some (.map kt et)) (hm : a.eval m = .map (some g)) {es : Array MapEntry} {c : Nat} (he : Ext L g (.map es c) L')
    (h : ∀ r w1, Own w0 w1 ((r, .mapIter (some g) c #[] c) :: L) → wpList P ops Q rest (a.put o.dst (.pointer (some ⟨r, 0, none⟩))) w1) : wpList P ops Q (o :: rest) a W := by
  have hb := HO.get he
  have hrun : (execOp a.eval o).run P W = .ok (.value (.pointer (some ⟨W.heap.size, 0, none⟩))) (W.alloc (.mapIter (some g) c #[] c)) := by
    unfold execOp
    rw [ho]
    simp only [hm]
    simp [Instr.range, Sem.run_bind, run_underlying ht, Result.andThen, MapKept.run_getObj_map hb, newObj, Sem.run]
  exact Kd.event_run hgd hrun (h _ _ (HO.alloc _))
theorem own_next (HO : Own w0 W L) (hgd : o.guard = none) {N : Tmp} (_hd : o.dst = some N) {it : Operand} (ho : o.op = .next it false) {r since c0 clock : Nat} {seen : Array Nat} {es : Array MapEntry} {L1 L2 : Hl} (hi : a.eval it = .pointer (some ⟨r, 0, none⟩))
    (hr : Ext L r (.mapIter (some g) since seen c0) L1) (he : Ext L g (.map es clock) L2) (hold : ∀ x ∈ es.toList, x.born < since) (hsc : since ≤ c0)
    (h0 : (leftOf es seen).size = 0 → wpList P ops Q rest (a.put o.dst (.tuple #[.bool false])) W)
    (h1 : ∀ e, e ∈ (leftOf es seen).toList → ∀ w1, Own w0 w1 ((r, .mapIter (some g) since (seen.push e.born) clock) :: L1) → wpList P ops Q rest (a.put o.dst (.tuple #[.bool true, e.key, e.val])) w1) : wpList P ops Q (o :: rest) a W := by
  have hb := HO.get he
  have hrb := HO.get hr
  have hex : ∀ v w1, (Instr.next (.pointer (some ⟨r, 0, none⟩)) false o.type).run P W = .ok v w1 → (execOp a.eval o).run P W = .ok (.value v) w1 := by
    intro v w1 hv
    unfold execOp
    rw [ho]
    simp only [hi, Sem.run_bind, hv, Result.andThen]
    rfl
  rcases run_next_at (P := P) W o.type r g since c0 seen es clock hrb hb hold hsc with ⟨hz, hrun⟩ | ⟨e, hm, w1, hw, hrun⟩
  · exact Kd.event_run hgd (hex _ _ hrun) (h0 hz)
  · refine Kd.event_run hgd (hex _ _ hrun) (h1 e hm _ ?_)
    have HO1 : Own w0 w1 L := by
      rcases hw with rfl | rfl
      · exact HO
      · exact HO.drew
    refine HO1.put hr ?_ (fun i hi => ?_) (fun B hB => below_obj hB _)
    · have := blk_lt (HO1.get hr)
      simp [ChangeMaps.setBlock, this]
    · simp only [ChangeMaps.setBlock, Array.getElem?_setIfInBounds]
      rw [if_neg (Ne.symm hi)]
theorem own_entry (HO : Own w0 W L) (hgd : o.guard = none) {N : Tmp} (_hd : o.dst = some N) {it : Operand} (ho : o.op = .entry it) {r since clock : Nat} {seen : Array Nat} {es : Array MapEntry} {L1 L2 : Hl} {e : MapEntry} (hi : a.eval it = .pointer (some ⟨r, 0, none⟩))
    (hr : Ext L r (.mapIter (some g) since (seen.push e.born) clock) L1) (he : Ext L g (.map es clock) L2) (hm : e ∈ es.toList) (hn : (es.toList.map (·.born)).Nodup) {kv vv : Value} (hk : e.key = kv) (hv : e.val = vv)
    (h : wpList P ops Q rest (a.put o.dst (.tuple #[kv, vv])) W) : wpList P ops Q (o :: rest) a W := by
  subst hk
  subst hv
  refine Kd.event_run hgd (w1 := W) ?_ h
  unfold execOp
  rw [ho]
  simp only [hi, Sem.run_bind, run_entry_at (P := P) W r g since seen es clock e (HO.get hr) (HO.get he) hm hn, Result.andThen]
  rfl
end
section
variable {P : Program} {ops : Array Oper} {rest : List Oper} {o : Oper} {a : Act} {Q : Exit → Act → World → Prop} {w0 W : World} {L L' : Hl} {g : Nat}
theorem own_maplen (HO : Own w0 W L) (hgd : o.guard = none) {N : Tmp} (_hd : o.dst = some N) {t kt et : TypeId} {x : Operand} (ho : o.op = .call { callee := .builtin .len, args := #[x], argTypes := #[t] }) (hx : a.eval x = .map (some g)) (ht : P.underlying t = some (.map kt et)) {es : Array MapEntry} {c n : Nat} (he : Ext L g (.map es c) L') (hn : es.size = n)
    (h : wpList P ops Q rest (a.put o.dst (.int .i64 n)) W) : wpList P ops Q (o :: rest) a W := by
  refine Kd.event_run hgd (w1 := W) ?_ h
  have hb := HO.get he
  subst hn
  unfold execOp
  rw [ho]
  simp [resolve, invoke, Deferred.ofValue, builtin, Builtin.len_, hx, Sem.run_bind, run_underlying ht, Result.andThen, MapKept.run_getObj_map hb, goInt]
end
section
variable {P : Program} {ops : Array Oper} {rest : List Oper} {o : Oper} {a : Act} {Q : Exit → Act → World → Prop} {w0 W : World} {L L' : Hl} {g : Nat}
theorem own_next0 (HO : Own w0 W L) (hgd : o.guard = none) {N : Tmp} (_hd : o.dst = some N) {it : Operand} (ho : o.op = .next it false) {r since c0 clock : Nat} {seen : Array Nat} {es : Array MapEntry} {L1 L2 : Hl} (hi : a.eval it = .pointer (some ⟨r, 0, none⟩))
    (hr : Ext L r (.mapIter (some g) since seen c0) L1) (he : Ext L g (.map es clock) L2) (hold : ∀ x ∈ es.toList, x.born < since) (hsc : since ≤ c0) (hz : (leftOf es seen).size = 0)
    (h : wpList P ops Q rest (a.put o.dst (.tuple #[.bool false])) W) : wpList P ops Q (o :: rest) a W :=
  own_next HO hgd _hd ho hi hr he hold hsc (fun _ => h) (fun e hm => by
    have : (leftOf es seen).toList = [] := by rw [Array.eq_empty_of_size_eq_zero hz]
    rw [this] at hm
    cases hm)
theorem own_next1 (HO : Own w0 W L) (hgd : o.guard = none) {N : Tmp} (_hd : o.dst = some N) {it : Operand} (ho : o.op = .next it false) {r since c0 clock : Nat} {seen : Array Nat} {es : Array MapEntry} {L1 L2 : Hl} (hi : a.eval it = .pointer (some ⟨r, 0, none⟩))
    (hr : Ext L r (.mapIter (some g) since seen c0) L1) (he : Ext L g (.map es clock) L2) (hold : ∀ x ∈ es.toList, x.born < since) (hsc : since ≤ c0) (hz : ¬ (leftOf es seen).size = 0)
    (h : ∀ e, e ∈ (leftOf es seen).toList → ∀ w1, Own w0 w1 ((r, .mapIter (some g) since (seen.push e.born) clock) :: L1) → wpList P ops Q rest (a.put o.dst (.tuple #[.bool true, e.key, e.val])) w1) : wpList P ops Q (o :: rest) a W :=
  own_next HO hgd _hd ho hi hr he hold hsc (fun h0 => absurd h0 hz) h
end
end Go.Proofs.Hp
