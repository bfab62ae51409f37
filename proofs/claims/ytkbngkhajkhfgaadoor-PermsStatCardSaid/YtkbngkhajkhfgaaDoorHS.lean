/- Rows that a call makes and appends to, as a piece of the list of blocks that is not looked into; no conditions beyond each theorem's own. -/
import Derived.Test.YtkbngkhajkhfgaaDoorHQ
import Derived.Deep.AppendSrc
import Derived.Deep.Upon
import Derived.OwnWalk
set_option linter.unusedVariables false
set_option linter.unusedSimpArgs false
namespace Go.Proofs.Hp
open Go.RowKit Go.Proofs.Ev Go.Proofs.YtkbngkhajkhfgaaDoorW.PrintWords Go.Proofs.YtkbngkhajkhfgaaDoorW.PrintLast Go.Proofs.YtkbngkhajkhfgaaDoorW.PrintMore
theorem Ext.app {L L' : Hl} {g : Nat} {o : Obj} (h : Ext L g o L') : ∀ R : Hl, Ext (R ++ L) g o (R ++ L')
  | [] => h
  | _ :: R => .tail (Ext.app h R)
theorem Ext.left {L' : Hl} {g : Nat} {o : Obj} (T : Hl) : ∀ {L : Hl}, Ext L g o L' → Ext (L ++ T) g o (L' ++ T)
  | _, .head => .head
  | _, .tail h => .tail (Ext.left T h)
theorem putAt_size : ∀ (vs : List Value) (cs : Array Value) (o : Nat), (putAt cs o vs).size = cs.size
  | [], _, _ => rfl
  | v :: vs, cs, o => (putAt_size vs _ (o + 1)).trans (by simp)
theorem putAt_list : ∀ (vs : List Value) (cs : Array Value) (o : Nat), o + vs.length ≤ cs.size → (putAt cs o vs).toList = cs.toList.take o ++ (vs ++ cs.toList.drop (o + vs.length))
  | [], cs, o, _ => by simp [putAt]
  | v :: vs, cs, o, h => by
    have h' : o + (vs.length + 1) ≤ cs.size := h
    have ih := putAt_list vs (cs.setIfInBounds o v) (o + 1) (by simp; omega)
    show (putAt (cs.setIfInBounds o v) (o + 1) vs).toList = _
    rw [ih]
    have e1 : (cs.setIfInBounds o v).toList = cs.toList.set o v := by simp
    rw [e1]
    have hl : o < cs.toList.length := by rw [Array.length_toList]; omega
    have e2 : (cs.toList.set o v).take (o + 1) = cs.toList.take o ++ [v] := by
      rw [List.take_succ_eq_append_getElem (by simpa using hl), List.getElem_set_self]
      congr 1
      apply List.ext_getElem?
      intro i
      simp only [List.getElem?_take]
      split
      · rw [List.getElem?_set_ne (by omega)]
      · rfl
    have e3 : (cs.toList.set o v).drop (o + 1 + vs.length) = cs.toList.drop (o + 1 + vs.length) := by
      rw [List.drop_set, if_pos (by omega)]
    rw [e2, e3]
    simp [Nat.add_assoc, Nat.add_comm 1]
/-- A row: nothing yet, or the first n elements of one block. -/
def RowOf (e : TypeId) (size : Nat) (R : Hl) (v : Value) (n : Nat) (xs : List Value) : Prop :=
  xs.length = n * size ∧ ((v = .slice none 0 0 ∧ n = 0 ∧ R = []) ∨ ∃ g cap cur, v = .slice (some ⟨g, 0, none⟩) n cap ∧ R = [(g, .cells cur e (0, 0))] ∧ n ≤ cap ∧ cap ≤ maxLen ∧ cur.size = cap * size ∧ cur.toList.take (n * size) = xs)
theorem RowOf.none (e : TypeId) (size : Nat) : RowOf e size [] (.slice none 0 0) 0 [] := ⟨by simp, .inl ⟨rfl, rfl, rfl⟩⟩
section
variable {P : Program} {w0 W : World} {L R : Hl}
theorem run_append_row (HO : Own w0 W (R ++ L)) {t tx ty e : TypeId} {i : TypeInfo} {z : Value} {size bytes : Nat} (ht : P.underlying t = some (.slice e)) (hi : P.info? e = some i) (hz : i.zero = some z) (hsize : i.size = size) (hby : i.bytes = bytes) (hzs : z.cells.size = size)
    {v : Value} {n : Nat} {xs : List Value} (hR : RowOf e size R v n xs) {x : Value} {m : Nat} {news : List Value} (hs : Src P size tx x m news W) (h63 : n + m ≤ maxLen) (hbytes : (n + m) * bytes ≤ 140737488355328) :
    ∃ v' R' w', (Builtin.append_ #[t, tx] ty #[v, x]).run P W = .ok v' w' ∧ RowOf e size R' v' (n + m) (xs ++ news) ∧ Own w0 w' (R' ++ L) := by
  subst hsize
  subst hby
  have hnl := hs.newsLen
  obtain ⟨hxl, hR⟩ := hR
  have hlen : (xs ++ news).length = (n + m) * i.size := by rw [List.length_append, hxl, hnl, Nat.add_mul]
  have hsmall : ((n + m : Nat) : Int) ≤ 9223372036854775807 := by simp only [maxLen] at h63; omega
  have grow : ∀ (base : Option Addr) (cap : Nat), v = .slice base n cap → cap < n + m → (Builtin.firstCells i.size n (.slice base n cap)).run P W.drew = .ok xs.toArray W.drew → Own w0 W L →
      ∃ v' R' w', (Builtin.append_ #[t, tx] ty #[v, x]).run P W = .ok v' w' ∧ RowOf e i.size R' v' (n + m) (xs ++ news) ∧ Own w0 w' (R' ++ L) := by
    rintro base cap rfl hg hold HL
    have hrun := run_append_grow_src (P := P) W t tx ty e i z ht hi hz base n cap xs hold x m news hs hg hsmall (growslice_fits hg hbytes)
    refine ⟨_, [(W.heap.size, _)], _, hrun, ⟨hlen, .inr ⟨W.heap.size, _, _, rfl, rfl, grownCap_ge W (n + m) cap e, grownCap_le_maxLen W (n + m) cap e h63, ?_, ?_⟩⟩, HL.drew.alloc _⟩
    · have := grownCap_ge W (n + m) cap e
      simp only [Array.size_append, List.size_toArray, size_zeroCells, hzs, hlen, ← Nat.add_mul]
      congr 1
      omega
    · simp only [Array.toList_append, ← hlen]
      exact List.take_left
  rcases hR with ⟨rfl, rfl, rfl⟩ | ⟨g, cap, cur, rfl, rfl, hnc, hcm, hcs, htk⟩
  · obtain rfl : xs = [] := List.eq_nil_of_length_eq_zero (by simpa using hxl)
    by_cases hm : m = 0
    · subst hm
      obtain rfl : news = [] := List.eq_nil_of_length_eq_zero (by simpa using hnl)
      exact ⟨_, [], _, run_append_nothing (P := P) W t tx ty e i ht hi Option.none 0 0 (Nat.le_refl _) x hs, RowOf.none e i.size, HO⟩
    · exact grow Option.none 0 rfl (by omega) (run_firstCells_none (P := P) W.drew i.size 0 0 0) HO
  · by_cases hroom : n + m ≤ cap
    · have hle : n * i.size + news.length ≤ cur.size := by
        rw [hcs, hnl, ← Nat.add_mul]
        exact Nat.mul_le_mul_right _ hroom
      have hth := HO.there .head (n * i.size) news.length hle
      have hrun := run_append_room_src (P := P) W t tx ty e i ht hi g 0 n cap x m news hs hroom (fun j hj => by rw [Nat.zero_add]; exact (hth j hj).1) (fun j hj => by rw [Nat.zero_add]; exact (hth j hj).2)
      rw [Nat.zero_add] at hrun
      refine ⟨_, [(g, _)], _, hrun, ⟨hlen, .inr ⟨g, cap, _, rfl, rfl, hroom, hcm, (putAt_size _ _ _).trans hcs, ?_⟩⟩, HO.setCells .head (n * i.size) news rfl⟩
      rw [putAt_list _ _ _ hle, htk, ← List.append_assoc, ← hlen]
      exact List.take_left
    · refine grow (some ⟨g, 0, Option.none⟩) cap rfl (by omega) ?_ HO.drop
      refine run_firstCells_some (P := P) W.drew i.size n ⟨g, 0, Option.none⟩ n cap xs hxl (fun j u hj => ?_)
      have := HO.drew.range (o := 0) (vs := xs) .head (by rw [List.drop_zero, hxl]; exact htk) j u hj
      rw [Addr.add_lit]
      exact this
theorem RowOf.cells {e : TypeId} {size : Nat} {v : Value} {n : Nat} {xs : List Value} (h : RowOf e size R v n xs) (HO : Own w0 W (R ++ L)) (hn : 0 < n) : ∃ g cap, v = .slice (some ⟨g, 0, Option.none⟩) n cap ∧ n ≤ cap ∧ cap ≤ maxLen ∧ w0.heap.size ≤ g ∧ g < W.heap.size ∧ ∀ j u, xs[j]? = some u → W.cell? ⟨g, j, Option.none⟩ = some u := by
  obtain ⟨hxl, ⟨_, h0, _⟩ | ⟨g, cap, cur, rfl, rfl, hnc, hcm, hcs, htk⟩⟩ := h
  · omega
  · refine ⟨g, cap, rfl, hnc, hcm, HO.ge .head, blk_lt (HO.get .head), fun j u hj => ?_⟩
    have := HO.range (o := 0) (vs := xs) .head (by rw [List.drop_zero, hxl]; exact htk) j u hj
    simpa using this
end
/-- What is appended lies in a block of the list. -/
theorem Own.src {P : Program} {w0 W : World} {L L' : Hl} {g : Nat} (HO : Own w0 W L) {size : Nat} {tx e' : TypeId} (hk : P.underlying tx = some (.slice e')) {cs : Array Value} {t : TypeId} (he : Ext L g (.cells cs t (0, 0)) L') (off n c : Nat) (news : List Value) (hv : (cs.toList.drop off).take news.length = news)
    (hl : news.length = n * size) (h1 : ∀ u ∈ news, u.oneCell' = true) : Src P size tx (.slice (some ⟨g, off, Option.none⟩) n c) n news W :=
  Src.ofSlice (P := P) W hk ⟨g, off, Option.none⟩ n c news hl (fun j u hj => by rw [Addr.add_lit]; exact HO.range he off news hv j u hj) h1
section
variable {P : Program} {ops : Array Oper} {rest : List Oper} {o : Oper} {a : Act} {Q : Exit → Act → World → Prop} {w0 W : World} {L R B : Hl}
theorem Own.swap3 (h : Own w0 W (B ++ (R ++ L))) : Own w0 W (R ++ (B ++ L)) := h.perm (by rw [← List.append_assoc, ← List.append_assoc]; exact List.Perm.append_right _ List.perm_append_comm)
theorem own_append (B : Hl) (HO : Own w0 W (B ++ (R ++ L))) (hgd : o.guard = none) {s x : Operand} {t tx : TypeId} (ho : o.op = .call { callee := .builtin .append, args := #[s, x], argTypes := #[t, tx] })
    {e : TypeId} {z : Value} {size bytes : Nat} (ht : P.underlying t = some (.slice e)) (hin : (P.info? e).map (fun i => (i.zero, i.size, i.bytes)) = some (some z, size, bytes)) (hzs : z.cells.size = size)
    {v : Value} {n : Nat} {xs : List Value} (hv : a.eval s = v) (hR : RowOf e size R v n xs) {xv : Value} {m : Nat} {news : List Value} (hx : a.eval x = xv) (hs : Src P size tx xv m news W) (h63 : n + m ≤ maxLen) (hbytes : (n + m) * bytes ≤ 140737488355328)
    (h : ∀ v' R' w1, RowOf e size R' v' (n + m) (xs ++ news) → Own w0 w1 (B ++ (R' ++ L)) → wpList P ops Q rest (a.put o.dst v') w1) : wpList P ops Q (o :: rest) a W := by
  obtain ⟨i, hi, hz, hsi, hby⟩ := info_parts hin
  obtain ⟨v', R', w', hrun, h1, h2⟩ := run_append_row (P := P) (ty := o.type) HO.swap3 ht hi hz hsi hby hzs hR hs h63 hbytes
  refine Kd.event_run hgd (w1 := w') (v := v') ?_ (h v' R' w' h1 h2.swap3)
  unfold execOp
  rw [ho]
  simp [resolve, invoke, Deferred.ofValue, builtin, hv, hx, hrun, Sem.run_bind, Result.andThen]
end
end Go.Proofs.Hp
