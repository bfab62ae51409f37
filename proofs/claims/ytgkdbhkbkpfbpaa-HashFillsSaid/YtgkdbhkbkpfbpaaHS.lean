/- Rows that a call makes and appends to, as a piece of the list of blocks that is not looked into; no conditions beyond each theorem's own. -/
import Derived.Test.YtgkdbhkbkpfbpaaHQ
import Derived.Deep.AppendSrc
import Derived.Deep.Upon
import Derived.OwnWalk
import Derived.Laws.Cover3
set_option linter.unusedVariables false
set_option linter.unusedSimpArgs false
namespace Go.Proofs.Hp
open Go.RowKit Go.Proofs.Ev Go.Proofs.YtgkdbhkbkpfbpaaW.PrintWords Go.Proofs.YtgkdbhkbkpfbpaaW.PrintLast Go.Proofs.YtgkdbhkbkpfbpaaW.PrintMore
theorem Ext.app {L L' : Hl} {g : Nat} {o : Obj} (h : Ext L g o L') : ∀ R : Hl, Ext (R ++ L) g o (R ++ L')
  | [] => h
  | _ :: R => .tail (Ext.app h R)
theorem Ext.left {L' : Hl} {g : Nat} {o : Obj} (T : Hl) : ∀ {L : Hl}, Ext L g o L' → Ext (L ++ T) g o (L' ++ T)
  | _, .head => .head
  | _, .tail h => .tail (Ext.left T h)
theorem putAt_size : ∀ (vs : List Value) (cs : Array Value) (o : Nat), (putAt cs o vs).size = cs.size
  | [], _, _ => rfl
  | v :: vs, cs, o => (putAt_size vs _ (o + 1)).trans (by simp)
theorem putAt_list : ∀ (vs : List Value) (cs : Array Value) (o : Nat), o + vs.length ≤ cs.size → (putAt cs o vs).toList = cs.toList.take o ++ (vs ++ cs.toList.drop (o + vs.length))
  | [], cs, o, _ => by simp [putAt]
  | v :: vs, cs, o, h => by
    have h' : o + (vs.length + 1) ≤ cs.size := h
    have ih := putAt_list vs (cs.setIfInBounds o v) (o + 1) (by simp; omega)
    show (putAt (cs.setIfInBounds o v) (o + 1) vs).toList = _
    rw [ih]
    have e1 : (cs.setIfInBounds o v).toList = cs.toList.set o v := by simp
    rw [e1]
    have hl : o < cs.toList.length := by rw [Array.length_toList]; omega
    have e2 : (cs.toList.set o v).take (o + 1) = cs.toList.take o ++ [v] := by
      rw [List.take_succ_eq_append_getElem (by simpa using hl), List.getElem_set_self]
      congr 1
      apply List.ext_getElem?
      intro i
      simp only [List.getElem?_take]
      split
      · rw [List.getElem?_set_ne (by omega)]
      · rfl
    have e3 : (cs.toList.set o v).drop (o + 1 + vs.length) = cs.toList.drop (o + 1 + vs.length) := by
      rw [List.drop_set, if_pos (by omega)]
    rw [e2, e3]
    simp [Nat.add_assoc, Nat.add_comm 1]
/-- A row: nothing yet, or the first n elements of one block. -/
def RowOf (e : TypeId) (size : Nat) (R : Hl) (v : Value) (n : Nat) (xs : List Value) : Prop :=
  xs.length = n * size ∧ ((v = .slice none 0 0 ∧ n = 0 ∧ R = []) ∨ ∃ g cap cur, v = .slice (some ⟨g, 0, none⟩) n cap ∧ R = [(g, .cells cur e (0, 0))] ∧ n ≤ cap ∧ cap ≤ maxLen ∧ cur.size = cap * size ∧ cur.toList.take (n * size) = xs)
theorem eql_slice_nil {P : Program} (w : World) (t e : TypeId) (a : Option Addr) (l c : Nat) (h : P.underlying t = some (.slice e)) : (binOp .eql t (.slice a l c) (.slice Option.none 0 0)).run P w = .ok (.bool a.isNone) w := by
  simp only [binOp]
  simp [run_equal_slice_nil w t e a l c h]
theorem RowOf.none (e : TypeId) (size : Nat) : RowOf e size [] (.slice none 0 0) 0 [] := ⟨by simp, .inl ⟨rfl, rfl, rfl⟩⟩
section
variable {P : Program} {w0 W : World} {L R : Hl}
theorem run_append_row (HO : Own w0 W (R ++ L)) {t tx ty e : TypeId} {i : TypeInfo} {z : Value} {size bytes : Nat} (ht : P.underlying t = some (.slice e)) (hi : P.info? e = some i) (hz : i.zero = some z) (hsize : i.size = size) (hby : i.bytes = bytes) (hzs : z.cells.size = size)
    {v : Value} {n : Nat} {xs : List Value} (hR : RowOf e size R v n xs) {x : Value} {m : Nat} {news : List Value} (hs : Src P size tx x m news W) (h63 : n + m ≤ maxLen) (hbytes : (n + m) * bytes ≤ 140737488355328) :
    ∃ v' R' w', (Builtin.append_ #[t, tx] ty #[v, x]).run P W = .ok v' w' ∧ RowOf e size R' v' (n + m) (xs ++ news) ∧ Own w0 w' (R' ++ L) := by
  subst hsize
  subst hby
  have hnl := hs.newsLen
  obtain ⟨hxl, hR⟩ := hR
  have hlen : (xs ++ news).length = (n + m) * i.size := by rw [List.length_append, hxl, hnl, Nat.add_mul]
  have hsmall : ((n + m : Nat) : Int) ≤ 9223372036854775807 := by simp only [maxLen] at h63; omega
  have grow : ∀ (base : Option Addr) (cap : Nat), v = .slice base n cap → cap < n + m → (Builtin.firstCells i.size n (.slice base n cap)).run P W.drew = .ok xs.toArray W.drew → Own w0 W L →
      ∃ v' R' w', (Builtin.append_ #[t, tx] ty #[v, x]).run P W = .ok v' w' ∧ RowOf e i.size R' v' (n + m) (xs ++ news) ∧ Own w0 w' (R' ++ L) := by
    rintro base cap rfl hg hold HL
    have hrun := run_append_grow_src (P := P) W t tx ty e i z ht hi hz base n cap xs hold x m news hs hg hsmall (growslice_fits hg hbytes)
    refine ⟨_, [(W.heap.size, _)], _, hrun, ⟨hlen, .inr ⟨W.heap.size, _, _, rfl, rfl, grownCap_ge W (n + m) cap e, grownCap_le_maxLen W (n + m) cap e h63, ?_, ?_⟩⟩, HL.drew.alloc _⟩
    · have := grownCap_ge W (n + m) cap e
      simp only [Array.size_append, List.size_toArray, size_zeroCells, hzs, hlen, ← Nat.add_mul]
      congr 1
      omega
    · simp only [Array.toList_append, ← hlen]
      exact List.take_left
  rcases hR with ⟨rfl, rfl, rfl⟩ | ⟨g, cap, cur, rfl, rfl, hnc, hcm, hcs, htk⟩
  · obtain rfl : xs = [] := List.eq_nil_of_length_eq_zero (by simpa using hxl)
    by_cases hm : m = 0
    · subst hm
      obtain rfl : news = [] := List.eq_nil_of_length_eq_zero (by simpa using hnl)
      exact ⟨_, [], _, run_append_nothing (P := P) W t tx ty e i ht hi Option.none 0 0 (Nat.le_refl _) x hs, RowOf.none e i.size, HO⟩
    · exact grow Option.none 0 rfl (by omega) (run_firstCells_none (P := P) W.drew i.size 0 0 0) HO
  · by_cases hroom : n + m ≤ cap
    · have hle : n * i.size + news.length ≤ cur.size := by
        rw [hcs, hnl, ← Nat.add_mul]
        exact Nat.mul_le_mul_right _ hroom
      have hth := HO.there .head (n * i.size) news.length hle
      have hrun := run_append_room_src (P := P) W t tx ty e i ht hi g 0 n cap x m news hs hroom (fun j hj => by rw [Nat.zero_add]; exact (hth j hj).1) (fun j hj => by rw [Nat.zero_add]; exact (hth j hj).2)
      rw [Nat.zero_add] at hrun
      refine ⟨_, [(g, _)], _, hrun, ⟨hlen, .inr ⟨g, cap, _, rfl, rfl, hroom, hcm, (putAt_size _ _ _).trans hcs, ?_⟩⟩, HO.setCells .head (n * i.size) news rfl⟩
      rw [putAt_list _ _ _ hle, htk, ← List.append_assoc, ← hlen]
      exact List.take_left
    · refine grow (some ⟨g, 0, Option.none⟩) cap rfl (by omega) ?_ HO.drop
      refine run_firstCells_some (P := P) W.drew i.size n ⟨g, 0, Option.none⟩ n cap xs hxl (fun j u hj => ?_)
      have := HO.drew.range (o := 0) (vs := xs) .head (by rw [List.drop_zero, hxl]; exact htk) j u hj
      rw [Addr.add_lit]
      exact this
theorem RowOf.cells {e : TypeId} {size : Nat} {v : Value} {n : Nat} {xs : List Value} (h : RowOf e size R v n xs) (HO : Own w0 W (R ++ L)) (hn : 0 < n) : ∃ g cap, v = .slice (some ⟨g, 0, Option.none⟩) n cap ∧ n ≤ cap ∧ cap ≤ maxLen ∧ w0.heap.size ≤ g ∧ g < W.heap.size ∧ ∀ j u, xs[j]? = some u → W.cell? ⟨g, j, Option.none⟩ = some u := by
  obtain ⟨hxl, ⟨_, h0, _⟩ | ⟨g, cap, cur, rfl, rfl, hnc, hcm, hcs, htk⟩⟩ := h
  · omega
  · refine ⟨g, cap, rfl, hnc, hcm, HO.ge .head, blk_lt (HO.get .head), fun j u hj => ?_⟩
    have := HO.range (o := 0) (vs := xs) .head (by rw [List.drop_zero, hxl]; exact htk) j u hj
    simpa using this
end
/-- What is appended lies in a block of the list. -/
theorem Own.src {P : Program} {w0 W : World} {L L' : Hl} {g : Nat} (HO : Own w0 W L) {size : Nat} {tx e' : TypeId} (hk : P.underlying tx = some (.slice e')) {cs : Array Value} {t : TypeId} (he : Ext L g (.cells cs t (0, 0)) L') (off n c : Nat) (news : List Value) (hv : (cs.toList.drop off).take news.length = news)
    (hl : news.length = n * size) (h1 : ∀ u ∈ news, u.oneCell' = true) : Src P size tx (.slice (some ⟨g, off, Option.none⟩) n c) n news W :=
  Src.ofSlice (P := P) W hk ⟨g, off, Option.none⟩ n c news hl (fun j u hj => by rw [Addr.add_lit]; exact HO.range he off news hv j u hj) h1
section
variable {P : Program} {ops : Array Oper} {rest : List Oper} {o : Oper} {a : Act} {Q : Exit → Act → World → Prop} {w0 W : World} {L R B : Hl}
theorem Own.swap3 (h : Own w0 W (B ++ (R ++ L))) : Own w0 W (R ++ (B ++ L)) := h.perm (by rw [← List.append_assoc, ← List.append_assoc]; exact List.Perm.append_right _ List.perm_append_comm)
theorem exec_append (B : Hl) (HO : Own w0 W (B ++ (R ++ L))) {s x : Operand} {t tx : TypeId} (ho : o.op = .call { callee := .builtin .append, args := #[s, x], argTypes := #[t, tx] })
    {e : TypeId} {z : Value} {size bytes : Nat} (ht : P.underlying t = some (.slice e)) (hin : (P.info? e).map (fun i => (i.zero, i.size, i.bytes)) = some (some z, size, bytes)) (hzs : z.cells.size = size)
    {v : Value} {n : Nat} {xs : List Value} (hv : a.eval s = v) (hR : RowOf e size R v n xs) {xv : Value} {m : Nat} {news : List Value} (hx : a.eval x = xv) (hs : Src P size tx xv m news W) (h63 : n + m ≤ maxLen) (hbytes : (n + m) * bytes ≤ 140737488355328) :
    ∃ v' R' w1, (execOp a.eval o).run P W = .ok (.value v') w1 ∧ RowOf e size R' v' (n + m) (xs ++ news) ∧ Own w0 w1 (B ++ (R' ++ L)) := by
  obtain ⟨i, hi, hz, hsi, hby⟩ := info_parts hin
  obtain ⟨v', R', w', hrun, h1, h2⟩ := run_append_row (P := P) (ty := o.type) HO.swap3 ht hi hz hsi hby hzs hR hs h63 hbytes
  refine ⟨v', R', w', ?_, h1, h2.swap3⟩
  unfold execOp
  rw [ho]
  simp [resolve, invoke, Deferred.ofValue, builtin, hv, hx, hrun, Sem.run_bind, Result.andThen]
theorem own_append (B : Hl) (HO : Own w0 W (B ++ (R ++ L))) (hgd : o.guard = none) {s x : Operand} {t tx : TypeId} (ho : o.op = .call { callee := .builtin .append, args := #[s, x], argTypes := #[t, tx] })
    {e : TypeId} {z : Value} {size bytes : Nat} (ht : P.underlying t = some (.slice e)) (hin : (P.info? e).map (fun i => (i.zero, i.size, i.bytes)) = some (some z, size, bytes)) (hzs : z.cells.size = size)
    {v : Value} {n : Nat} {xs : List Value} (hv : a.eval s = v) (hR : RowOf e size R v n xs) {xv : Value} {m : Nat} {news : List Value} (hx : a.eval x = xv) (hs : Src P size tx xv m news W) (h63 : n + m ≤ maxLen) (hbytes : (n + m) * bytes ≤ 140737488355328)
    (h : ∀ v' R' w1, RowOf e size R' v' (n + m) (xs ++ news) → Own w0 w1 (B ++ (R' ++ L)) → wpList P ops Q rest (a.put o.dst v') w1) : wpList P ops Q (o :: rest) a W := by
  obtain ⟨v', R', w', hrun, h1, h2⟩ := exec_append (a := a) B HO ho ht hin hzs hv hR hx hs h63 hbytes
  exact Kd.event_run hgd hrun (h v' R' w' h1 h2)
theorem own_append_k {Kc : Act → World → Prop} (B : Hl) (HO : Own w0 W (B ++ (R ++ L))) (hw : Region.wanted o (yielded ops a.tmps) = true) {N : Tmp} (hN : o.dst = some N) {s x : Operand} {t tx : TypeId} (ho : o.op = .call { callee := .builtin .append, args := #[s, x], argTypes := #[t, tx] })
    {e : TypeId} {z : Value} {size bytes : Nat} (ht : P.underlying t = some (.slice e)) (hin : (P.info? e).map (fun i => (i.zero, i.size, i.bytes)) = some (some z, size, bytes)) (hzs : z.cells.size = size)
    {v : Value} {n : Nat} {xs : List Value} (hv : a.eval s = v) (hR : RowOf e size R v n xs) {xv : Value} {m : Nat} {news : List Value} (hx : a.eval x = xv) (hs : Src P size tx xv m news W) (h63 : n + m ≤ maxLen) (hbytes : (n + m) * bytes ≤ 140737488355328)
    (h : ∀ v' R' w1, RowOf e size R' v' (n + m) (xs ++ news) → Own w0 w1 (B ++ (R' ++ L)) → Kc (a.put (some N) v') w1) : if Region.wanted o (yielded ops a.tmps) = true then Oper.wp P o a W Kc Q else Kc (a.put (some N) undef) W := by
  obtain ⟨v', R', w', hrun, h1, h2⟩ := exec_append (a := a) B HO ho ht hin hzs hv hR hx hs h63 hbytes
  rw [← hN] at h ⊢
  exact event_step hw hrun (h v' R' w' h1 h2)
theorem own_lit_k {Kc : Act → World → Prop} (HO : Own w0 W L) (hw : Region.wanted o (yielded ops a.tmps) = true) {N : Tmp} (hN : o.dst = some N) {cs : Array Value} {t : TypeId} {n m : Nat}
    (hrun : (execOp a.eval o).run P W = .ok (.value (.slice (some ⟨W.heap.size, 0, Option.none⟩) n m)) (W.alloc (.cells cs t (0, 0))))
    (h : ∀ g w1, Own w0 w1 ((g, .cells cs t (0, 0)) :: L) → Kc (a.put (some N) (.slice (some ⟨g, 0, Option.none⟩) n m)) w1) : if Region.wanted o (yielded ops a.tmps) = true then Oper.wp P o a W Kc Q else Kc (a.put (some N) undef) W := by
  rw [← hN] at h ⊢
  exact event_step hw hrun (h _ _ (HO.alloc _))
theorem exec_make {t : TypeId} {l c : Operand} (ho : o.op = .makeSlice t l c) {e : TypeId} {z : Value} {size bytes : Nat} (ht : P.underlying t = some (.slice e)) (hin : (P.info? e).map (fun i => (i.zero, i.size, i.bytes)) = some (some z, size, bytes))
    {kl kc : IntKind} {n : Nat} {N : Int} (hN : N = (n : Int)) (hl : a.eval l = .int kl N) (hc : a.eval c = .int kc N) (hb : bytes * n ≤ 281474976710656) (hm : n ≤ maxLen) {cs : Array Value} (hcs : madeCells z.cells (n * size) = cs) :
    (execOp a.eval o).run P W = .ok (.value (.slice (some ⟨W.heap.size, 0, Option.none⟩) n n)) (W.alloc (.cells cs e (0, 0))) := by
  subst hcs
  subst hN
  obtain ⟨i, hi, hz, hsi, hby⟩ := info_parts hin
  subst hby
  subst hsi
  have hb' : (i.bytes : Int) * (n : Int) ≤ 281474976710656 := by
    have : ((i.bytes * n : Nat) : Int) ≤ 281474976710656 := by omega
    simpa using this
  have hrun := run_make (P := P) W t e i z ht hi hz kl kc (n : Int) (n : Int) (by omega) (Int.le_refl _) hb' (by unfold maxLen at hm; omega)
  simp only [Int.toNat_natCast] at hrun
  unfold execOp
  rw [ho]
  simp only [hl, hc, hrun, Sem.run_bind, Result.andThen]
  rfl
theorem own_make (HO : Own w0 W L) (hgd : o.guard = none) {t : TypeId} {l c : Operand} (ho : o.op = .makeSlice t l c) {e : TypeId} {z : Value} {size bytes : Nat} (ht : P.underlying t = some (.slice e)) (hin : (P.info? e).map (fun i => (i.zero, i.size, i.bytes)) = some (some z, size, bytes))
    {kl kc : IntKind} {n : Nat} {N : Int} (hN : N = (n : Int)) (hl : a.eval l = .int kl N) (hc : a.eval c = .int kc N) (hb : bytes * n ≤ 281474976710656) (hm : n ≤ maxLen) {cs : Array Value} (hcs : madeCells z.cells (n * size) = cs)
    (h : ∀ g w1, Own w0 w1 ((g, .cells cs e (0, 0)) :: L) → wpList P ops Q rest (a.put o.dst (.slice (some ⟨g, 0, Option.none⟩) n n)) w1) : wpList P ops Q (o :: rest) a W :=
  Kd.event_run hgd (exec_make ho ht hin hN hl hc hb hm hcs) (h _ _ (HO.alloc _))
theorem own_make_k {Kc : Act → World → Prop} (HO : Own w0 W L) (hw : Region.wanted o (yielded ops a.tmps) = true) {M : Tmp} (hd : o.dst = some M) {t : TypeId} {l c : Operand} (ho : o.op = .makeSlice t l c) {e : TypeId} {z : Value} {size bytes : Nat} (ht : P.underlying t = some (.slice e)) (hin : (P.info? e).map (fun i => (i.zero, i.size, i.bytes)) = some (some z, size, bytes))
    {kl kc : IntKind} {n : Nat} {N : Int} (hN : N = (n : Int)) (hl : a.eval l = .int kl N) (hc : a.eval c = .int kc N) (hb : bytes * n ≤ 281474976710656) (hm : n ≤ maxLen) {cs : Array Value} (hcs : madeCells z.cells (n * size) = cs)
    (h : ∀ g w1, Own w0 w1 ((g, .cells cs e (0, 0)) :: L) → Kc (a.put (some M) (.slice (some ⟨g, 0, Option.none⟩) n n)) w1) : if Region.wanted o (yielded ops a.tmps) = true then Oper.wp P o a W Kc Q else Kc (a.put (some M) undef) W := by
  rw [← hd] at h ⊢
  exact event_step hw (exec_make ho ht hin hN hl hc hb hm hcs) (h _ _ (HO.alloc _))
theorem RowOf.ofBlock {e : TypeId} {size g n : Nat} {xs : List Value} (hl : xs.length = n * size) (hm : n ≤ maxLen) : RowOf e size [(g, .cells xs.toArray e (0, 0))] (.slice (some ⟨g, 0, Option.none⟩) n n) n xs :=
  ⟨hl, .inr ⟨g, n, xs.toArray, rfl, rfl, Nat.le_refl _, hm, by simp [hl], by rw [← hl]; exact List.take_of_length_le (Nat.le_refl _)⟩⟩
/-- What is appended is a row of the list. -/
theorem RowOf.src {e : TypeId} {size : Nat} {v : Value} {n : Nat} {xs : List Value} (hR : RowOf e size R v n xs) (HO : Own w0 W (R ++ L)) {tx e' : TypeId} (hk : P.underlying tx = some (.slice e')) (h1 : ∀ u ∈ xs, u.oneCell' = true) : Src P size tx v n xs W := by
  obtain ⟨hxl, ⟨rfl, rfl, rfl⟩ | ⟨g, cap, cur, rfl, rfl, hnc, hcm, hcs, htk⟩⟩ := hR
  · obtain rfl : xs = [] := List.eq_nil_of_length_eq_zero (by simpa using hxl)
    exact Src.ofNil (P := P) W hk 0
  · exact HO.src hk .head 0 n cap xs (by rw [List.drop_zero, hxl]; exact htk) hxl h1
theorem conv_run (hgd : o.guard = none) {src dst : TypeId} {x : Operand} (ho : o.op = .convert src dst x) {xv v : Value} (hx : a.eval x = xv) (hr : (convert src dst xv).run P W = .ok v W) (h : wpList P ops Q rest (a.put o.dst v) W) : wpList P ops Q (o :: rest) a W := by
  refine Kd.event_run hgd (w1 := W) (v := v) ?_ h
  unfold execOp
  rw [ho]
  simp only [hx, hr, Sem.run_bind, Result.andThen]
  rfl
theorem exec_conv {src dst : TypeId} {x : Operand} (ho : o.op = .convert src dst x) {xv v : Value} (hx : a.eval x = xv) (hr : (convert src dst xv).run P W = .ok v W) : (execOp a.eval o).run P W = .ok (.value v) W := by
  unfold execOp
  rw [ho]
  simp only [hx, hr, Sem.run_bind, Result.andThen]
  rfl
/-- A row of bytes is told as a string. -/
theorem RowOf.string {src dst e e' : TypeId} (hs : P.underlying src = some (.slice e)) (he : P.underlying e = some (.int .u8)) (hd : P.underlying dst = some .string) {v : Value} {n : Nat} {xs : List Int} (hR : RowOf e' 1 R v n (xs.map (Value.int .u8))) (HO : Own w0 W (R ++ L)) :
    (convert src dst v).run P W = .ok (.string (strOfNums xs)) W := by
  have hl : xs.length = n := by have := hR.1; simpa using this
  obtain ⟨hxl, ⟨rfl, rfl, rfl⟩ | ⟨g, cap, cur, rfl, rfl, hnc, hcm, hcs, htk⟩⟩ := hR
  · obtain rfl : xs = [] := List.eq_nil_of_length_eq_zero hl
    exact run_convert_bytes_nil W src e hs he 0 0 dst hd
  · refine run_convert_bytes_arg W src e hs he g 0 n cap xs hl (fun i hi => ?_) dst hd
    have hi' : i < xs.length := by omega
    have := HO.range (o := 0) (vs := xs.map (Value.int .u8)) .head (by rw [List.drop_zero, hxl]; exact htk) i (.int .u8 (xs.getD i 0)) (by simp [List.getElem?_eq_getElem hi'])
    first
      | (rw [Addr.add_lit]; exact this)
      | exact this
end
end Go.Proofs.Hp
