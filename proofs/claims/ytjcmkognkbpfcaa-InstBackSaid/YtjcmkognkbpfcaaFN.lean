/- A region that draws its order, in a round of a range over a function: what is shown of it in a plain frame holds there too; no conditions beyond each theorem's own. -/
import Derived.Test.YtjcmkognkbpfcaaHS
import Derived.RangeFuncNested
import Derived.RangeFuncBound
import Derived.RangeFuncCalls
import Derived.RangeFuncLeaves
import Derived.RangeFuncBox
import Derived.Shelf.Abstract
import Derived.WalkKit
import Derived.OwnWalkIn
import Derived.TacticsInMore
import Derived.LoopNIn
import Derived.LoopIn
import Derived.OrdersIn
set_option linter.unusedVariables false
set_option linter.unusedSimpArgs false
namespace Go.Proofs.Hp
open Go.RowKit Go.Proofs.Ev Go.Proofs.YtjcmkognkbpfcaaW.PrintWords Go.Proofs.YtjcmkognkbpfcaaW.PrintLast Go.Proofs.YtjcmkognkbpfcaaW.PrintMore
/-- The widest fence, in a round or not. -/
abbrev wideR (ro : Option Nat) : Fence := { Fence.wide with round := ro }
section
variable {P : Program} {ops : Array Oper} {Q : Exit → Act → World → Prop} {S : World → Prop} {ds : List Nat} {ro : Option Nat} {n : Nat}
theorem callsIn_wideR {f : FuncId} {args : Array Value} {w : World} {R : Ending → World → Prop} (h : Calls P f args w R) : CallsIn (wideR ro) n P f args w R := (callsIn_wide (n := n)).2 h
theorem upon_in {o : Oper} {a : Act} {next : Act → World → Prop} {r : Result Next} (h : o.upon P a next Q r) : o.uponIn (wideR ro) n P a next Q r := by
  cases r with
  | ok x w' =>
    cases x <;> simp only [Oper.upon, Oper.uponIn] at h ⊢ <;>
      first
        | exact h
        | exact ⟨fun hd => (by cases hd), callsIn_wideR h⟩
        | exact ⟨fun hd => (by cases hd), fun c cs _ => let ⟨v, w', r, s⟩ := h c cs; ⟨v, w', r, stepsIn_wide.2 s⟩⟩
  | halt x w' => cases x <;> simp only [Oper.upon, Oper.uponIn] at h ⊢ <;> exact h
/-- No deferred call among operations. -/
def noDefer (ops : Array Oper) : Bool := ops.all fun o => match o.op with | .defer _ => false | _ => true
theorem noDefer_at (hd : noDefer ops = true) {i : Nat} {o : Oper} (ho : ops[i]? = some o) (c) : o.op ≠ .defer c := fun hc => by
  have hm := Array.all_eq_true_iff_forall_mem.1 hd o (Array.mem_of_getElem? ho)
  rw [hc] at hm
  cases hm
theorem wpAnyIn_of_any {md : Region.Mode} (hd : noDefer ops = true) (hq : ¬ LetsOut Q) : ∀ (fuel : Nat) (listed : Array Bool) (a : Act) (w : World), wpAny P md ops Q fuel listed a w → wpAnyIn (wideR ro) n P md ops Q fuel listed a w
  | 0, _, _, _, h => h
  | fuel + 1, listed, a, w, h => ⟨h.1, fun i hi => by
    have h2 := wpOp_mono (fun a' w' h' => wpAnyIn_of_any hd hq fuel _ a' w' h') (h.2 i hi)
    unfold wpOp at h2
    unfold wpOpIn
    split
    · rename_i ho
      simpa [ho] using h2
    · rename_i o ho
      simp only [ho] at h2
      split
      · rename_i hw
        simp only [hw, if_true] at h2
        rcases h2 with h2 | h2
        · refine ⟨fun f _ => trivial, ?_⟩
          rw [Oper.semAt_eq _ _ _ (noDefer_at hd ho)]
          exact upon_in h2
        · exact absurd h2.2 hq
      · rename_i hw
        simp only [hw] at h2
        exact ⟨fun f _ => trivial, h2⟩⟩
theorem start_r {id m : Nat} {a : Act} {w : World} (ls : Array Bool) (hd : noDefer ops = true) (hq : ¬ LetsOut Q) (hm : P.follows .mixedOrders = true) (hn : ops.size = m) (hl : Array.replicate m false = ls) (hS : S w.drew)
    (h : S w.drew → wpAnyLast P .any ops Q S ds m ls a w.drew) : (Code.region id ops true).wpIn (wideR ro) n P Q a w := by
  subst hn
  subst hl
  exact wpIn_region_any hm (wpAnyIn_of_any hd hq _ _ _ _ (wpAny_of_last _ _ _ _ (h hS)))
theorem start_in {l id m : Nat} {a : Act} {w : World} (ls : Array Bool) (hd : noDefer ops = true) (hq : ¬ LetsOut Q) (hm : P.follows .mixedOrders = true) (hn : ops.size = m) (hl : Array.replicate m false = ls) (hS : S w.drew)
    (h : S w.drew → wpAnyLast P .any ops Q S ds m ls a w.drew) : (Code.region id ops true).wpIn (Fence.wide.inRound l) n P Q a w := start_r (ro := some l) ls hd hq hm hn hl hS h
theorem start_w {id m : Nat} {a : Act} {w : World} (ls : Array Bool) (hd : noDefer ops = true) (hq : ¬ LetsOut Q) (hm : P.follows .mixedOrders = true) (hn : ops.size = m) (hl : Array.replicate m false = ls) (hS : S w.drew)
    (h : S w.drew → wpAnyLast P .any ops Q S ds m ls a w.drew) : (Code.region id ops true).wpIn Fence.wide n P Q a w := start_r (ro := none) ls hd hq hm hn hl hS h
end
section
variable {P : Program} {ops : Array Oper} {rest : List Oper} {o : Oper} {a : Act} {Q : Exit → Act → World → Prop} {F : Fence} {n : Nat}
/-- A plain operation, inside a fence. -/
theorem eventIn_run {W w1 : World} {v : Value} (hro : F.round = none) (hgd : o.guard = none) (hab : o.about P W a.eval = none) (hrun : (execOp a.eval o).run P W = .ok (.value v) w1) (h : wpListIn F n P ops Q rest (a.put o.dst v) w1) : wpListIn F n P ops Q (o :: rest) a W := by
  refine wpListIn_plain hgd (fun K hK => ?_)
  unfold Oper.wpIn
  refine ⟨fun f hf => (by rw [hab] at hf; cases hf), ?_⟩
  rw [hro, Oper.semAt_none, hrun]
  exact hK _ _ h
end
/-! ### Steps that tell, beside what a call made, that whatever is no cells lies as it lay -/
theorem keeps_setCells {g : Nat} : ∀ (vs : List Value) (o : Nat) (W : World), KeepsOthers W (W.setCells g o vs)
  | [], _, W => KeepsOthers.refl W
  | v :: vs, o, W => (KeepsOthers.setCell _ _ _).trans (keeps_setCells vs (o + 1) _)
theorem keeps_below {W W' : World} (h : Below W.heap.size W W') : KeepsOthers W W' := ⟨h.size, fun k o hk _ => (h.block k (Array.getElem?_eq_some_iff.1 hk).1).trans hk⟩
section
variable {P : Program} {w0 W : World} {L R : Hl}
theorem run_append_rowK (HO : Own w0 W (R ++ L)) {t tx ty e : TypeId} {i : TypeInfo} {z : Value} {size bytes : Nat} (ht : P.underlying t = some (.slice e)) (hi : P.info? e = some i) (hz : i.zero = some z) (hsize : i.size = size) (hby : i.bytes = bytes) (hzs : z.cells.size = size)
    {v : Value} {n : Nat} {xs : List Value} (hR : RowOf e size R v n xs) {x : Value} {m : Nat} {news : List Value} (hs : Src P size tx x m news W) (h63 : n + m ≤ maxLen) (hbytes : (n + m) * bytes ≤ 140737488355328) :
    ∃ v' R' w', (Builtin.append_ #[t, tx] ty #[v, x]).run P W = .ok v' w' ∧ RowOf e size R' v' (n + m) (xs ++ news) ∧ Own w0 w' (R' ++ L) ∧ KeepsOthers W w' := by
  subst hsize
  subst hby
  have hnl := hs.newsLen
  obtain ⟨hxl, hR⟩ := hR
  have hlen : (xs ++ news).length = (n + m) * i.size := by rw [List.length_append, hxl, hnl, Nat.add_mul]
  have hsmall : ((n + m : Nat) : Int) ≤ 9223372036854775807 := by simp only [maxLen] at h63; omega
  have grow : ∀ (base : Option Addr) (cap : Nat), v = .slice base n cap → cap < n + m → (Builtin.firstCells i.size n (.slice base n cap)).run P W.drew = .ok xs.toArray W.drew → Own w0 W L →
      ∃ v' R' w', (Builtin.append_ #[t, tx] ty #[v, x]).run P W = .ok v' w' ∧ RowOf e i.size R' v' (n + m) (xs ++ news) ∧ Own w0 w' (R' ++ L) ∧ KeepsOthers W w' := by
    rintro base cap rfl hg hold HL
    have hrun := run_append_grow_src (P := P) W t tx ty e i z ht hi hz base n cap xs hold x m news hs hg hsmall (growslice_fits hg hbytes)
    refine ⟨_, [(W.heap.size, _)], _, hrun, ⟨hlen, .inr ⟨W.heap.size, _, _, rfl, rfl, grownCap_ge W (n + m) cap e, grownCap_le_maxLen W (n + m) cap e h63, ?_, ?_⟩⟩, HL.drew.alloc _, (KeepsOthers.drew W).trans (KeepsOthers.alloc _ _)⟩
    · have := grownCap_ge W (n + m) cap e
      simp only [Array.size_append, List.size_toArray, size_zeroCells, hzs, hlen, ← Nat.add_mul]
      congr 1
      omega
    · simp only [Array.toList_append, ← hlen]
      exact List.take_left
  rcases hR with ⟨rfl, rfl, rfl⟩ | ⟨g, cap, cur, rfl, rfl, hnc, hcm, hcs, htk⟩
  · obtain rfl : xs = [] := List.eq_nil_of_length_eq_zero (by simpa using hxl)
    by_cases hm : m = 0
    · subst hm
      obtain rfl : news = [] := List.eq_nil_of_length_eq_zero (by simpa using hnl)
      exact ⟨_, [], _, run_append_nothing (P := P) W t tx ty e i ht hi Option.none 0 0 (Nat.le_refl _) x hs, RowOf.none e i.size, HO, KeepsOthers.refl W⟩
    · exact grow Option.none 0 rfl (by omega) (run_firstCells_none (P := P) W.drew i.size 0 0 0) HO
  · by_cases hroom : n + m ≤ cap
    · have hle : n * i.size + news.length ≤ cur.size := by
        rw [hcs, hnl, ← Nat.add_mul]
        exact Nat.mul_le_mul_right _ hroom
      have hth := HO.there .head (n * i.size) news.length hle
      have hrun := run_append_room_src (P := P) W t tx ty e i ht hi g 0 n cap x m news hs hroom (fun j hj => by rw [Nat.zero_add]; exact (hth j hj).1) (fun j hj => by rw [Nat.zero_add]; exact (hth j hj).2)
      rw [Nat.zero_add] at hrun
      refine ⟨_, [(g, _)], _, hrun, ⟨hlen, .inr ⟨g, cap, _, rfl, rfl, hroom, hcm, (putAt_size _ _ _).trans hcs, ?_⟩⟩, HO.setCells .head (n * i.size) news rfl, keeps_setCells _ _ _⟩
      rw [putAt_list _ _ _ hle, htk, ← List.append_assoc, ← hlen]
      exact List.take_left
    · refine grow (some ⟨g, 0, Option.none⟩) cap rfl (by omega) ?_ HO.drop
      refine run_firstCells_some (P := P) W.drew i.size n ⟨g, 0, Option.none⟩ n cap xs hxl (fun j u hj => ?_)
      have := HO.drew.range (o := 0) (vs := xs) .head (by rw [List.drop_zero, hxl]; exact htk) j u hj
      rw [Addr.add_lit]
      exact this
end
section
variable {P : Program} {ops : Array Oper} {rest : List Oper} {o : Oper} {a : Act} {Q : Exit → Act → World → Prop} {w0 W : World} {L R B : Hl}
theorem exec_appendK (B : Hl) (HO : Own w0 W (B ++ (R ++ L))) {s x : Operand} {t tx : TypeId} (ho : o.op = .call { callee := .builtin .append, args := #[s, x], argTypes := #[t, tx] })
    {e : TypeId} {z : Value} {size bytes : Nat} (ht : P.underlying t = some (.slice e)) (hin : (P.info? e).map (fun i => (i.zero, i.size, i.bytes)) = some (some z, size, bytes)) (hzs : z.cells.size = size)
    {v : Value} {n : Nat} {xs : List Value} (hv : a.eval s = v) (hR : RowOf e size R v n xs) {xv : Value} {m : Nat} {news : List Value} (hx : a.eval x = xv) (hs : Src P size tx xv m news W) (h63 : n + m ≤ maxLen) (hbytes : (n + m) * bytes ≤ 140737488355328) :
    ∃ v' R' w1, (execOp a.eval o).run P W = .ok (.value v') w1 ∧ RowOf e size R' v' (n + m) (xs ++ news) ∧ Own w0 w1 (B ++ (R' ++ L)) ∧ KeepsOthers W w1 := by
  obtain ⟨i, hi, hz, hsi, hby⟩ := info_parts hin
  obtain ⟨v', R', w', hrun, h1, h2, h3⟩ := run_append_rowK (P := P) (ty := o.type) HO.swap3 ht hi hz hsi hby hzs hR hs h63 hbytes
  refine ⟨v', R', w', ?_, h1, h2.swap3, h3⟩
  unfold execOp
  rw [ho]
  simp [resolve, invoke, Deferred.ofValue, builtin, hv, hx, hrun, Sem.run_bind, Result.andThen]
theorem own_append_kK {Kc : Act → World → Prop} (B : Hl) (HO : Own w0 W (B ++ (R ++ L))) (hw : Region.wanted o (yielded ops a.tmps) = true) {N : Tmp} (hN : o.dst = some N) {s x : Operand} {t tx : TypeId} (ho : o.op = .call { callee := .builtin .append, args := #[s, x], argTypes := #[t, tx] })
    {e : TypeId} {z : Value} {size bytes : Nat} (ht : P.underlying t = some (.slice e)) (hin : (P.info? e).map (fun i => (i.zero, i.size, i.bytes)) = some (some z, size, bytes)) (hzs : z.cells.size = size)
    {v : Value} {n : Nat} {xs : List Value} (hv : a.eval s = v) (hR : RowOf e size R v n xs) {xv : Value} {m : Nat} {news : List Value} (hx : a.eval x = xv) (hs : Src P size tx xv m news W) (h63 : n + m ≤ maxLen) (hbytes : (n + m) * bytes ≤ 140737488355328)
    (h : ∀ v' R' w1, RowOf e size R' v' (n + m) (xs ++ news) → Own w0 w1 (B ++ (R' ++ L)) → KeepsOthers W w1 → Kc (a.put (some N) v') w1) : if Region.wanted o (yielded ops a.tmps) = true then Oper.wp P o a W Kc Q else Kc (a.put (some N) undef) W := by
  obtain ⟨v', R', w', hrun, h1, h2, h3⟩ := exec_appendK (a := a) B HO ho ht hin hzs hv hR hx hs h63 hbytes
  rw [← hN] at h ⊢
  exact event_step hw hrun (h v' R' w' h1 h2 h3)
theorem own_lit_kK {Kc : Act → World → Prop} (HO : Own w0 W L) (hw : Region.wanted o (yielded ops a.tmps) = true) {N : Tmp} (hN : o.dst = some N) {cs : Array Value} {t : TypeId} {n m : Nat}
    (hrun : (execOp a.eval o).run P W = .ok (.value (.slice (some ⟨W.heap.size, 0, Option.none⟩) n m)) (W.alloc (.cells cs t (0, 0))))
    (h : ∀ g w1, Own w0 w1 ((g, .cells cs t (0, 0)) :: L) → KeepsOthers W w1 → Kc (a.put (some N) (.slice (some ⟨g, 0, Option.none⟩) n m)) w1) : if Region.wanted o (yielded ops a.tmps) = true then Oper.wp P o a W Kc Q else Kc (a.put (some N) undef) W := by
  rw [← hN] at h ⊢
  exact event_step hw hrun (h _ _ (HO.alloc _) (KeepsOthers.alloc _ _))
end
section
variable {P : Program} {ops : Array Oper} {rest : List Oper} {o : Oper} {a : Act} {Q : Exit → Act → World → Prop} {Kc : Act → World → Prop} {w0 W : World} {L L' : Hl} {g : Nat}
theorem own_store_kK (HO : Own w0 W L) (hw : Region.wanted o (yielded ops a.tmps) = true) (hN : o.dst = none) {ty t : TypeId} {x y : Operand} (ho : o.op = .store ty x y) {cs cs' : Array Value} {j : Nat} {v : Value} (hx : a.eval x = .pointer (some ⟨g, j, none⟩)) (hy : a.eval y = v)
    (he : Ext L g (.cells cs t (0, 0)) L') (hi : (P.info? ty).map (·.size) = some 1) (h1 : v.oneCell' = true) (hj : j < cs.size) (hc : cs.setIfInBounds j v = cs')
    (h : ∀ w1, Own w0 w1 ((g, .cells cs' t (0, 0)) :: L') → KeepsOthers W w1 → Kc a w1) : if Region.wanted o (yielded ops a.tmps) = true then Oper.wp P o a W Kc Q else Kc (a.put none undef) W := by
  have hq : ∀ w1, Kc a w1 → Kc (a.put o.dst undef) w1 := fun w1 h => by rw [hN]; exact h
  rw [if_pos hw]
  unfold Oper.wp execOp
  rw [ho]
  simp only [hx, hy, Instr.storeAt, Instr.sureAddr, Sem.run_bind, Sem.run_pure, Result.andThen_ok, run_store1 hi h1 (HO.get he) hj]
  exact hq _ (h _ (HO.setCell he j v hc) (KeepsOthers.setCell _ _ _))
end
/-- What a call keeps is kept by a loop over a function: its own blocks are cells. -/
theorem Own.grown {w0 W W' : World} {L : Hl} {row : Option Nat} (h : Own w0 W L) (hg : W.grownBy W' row) (hr : ∀ r, row = some r → w0.heap.size ≤ r ∧ ∃ o : Obj, W.heap[r]? = some o ∧ o.isCells = false) (hL : ∀ p ∈ L, p.2.isCells = true) : Own w0 W' L := by
  refine ⟨?_, ?_, h.fresh, h.nd⟩
  · exact h.bel.grown hg h.bel.size (fun k e => (hr k e).1)
  · intro p hp
    have hb := h.blk p hp
    refine (hg.block p.1 (Array.getElem?_eq_some_iff.1 hb).1 ?_).trans hb
    intro e
    obtain ⟨_, o, ho, hc⟩ := hr p.1 e.symm
    rw [hb] at ho
    cases ho
    rw [hL p hp] at hc
    cases hc
end Go.Proofs.Hp
