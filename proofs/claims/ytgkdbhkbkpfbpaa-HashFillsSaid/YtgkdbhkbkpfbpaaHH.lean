/- container/heap at a list of free slots (hash.free), over lists of blocks; no conditions beyond each theorem's own. -/
import Derived.Test.YtgkdbhkbkpfbpaaAR
import Derived.Test.YtgkdbhkbkpfbpaaHZ
import Derived.Test.YtgkdbhkbkpfbpaaRG
set_option linter.unusedVariables false
set_option linter.unusedSimpArgs false
namespace Go.Proofs.Hh
open Go.RowKit Go.Proofs.Ev Go.Proofs.Hp Go.Proofs.Ar Go.Proofs.Rg Go.Proofs.YtgkdbhkbkpfbpaaW.PrintWords Go.Proofs.YtgkdbhkbkpfbpaaW.PrintLast Go.Proofs.YtgkdbhkbkpfbpaaW.PrintMore
attribute [local go_sem] max2_int min2_int max_two min_two max_three min_three max_four min_four eql_slice_nil
theorem _root_.Go.Proofs.Hp.Own.repr2 {w0 W : World} {L L' : Hl} (h : Own w0 W L) (J : Hl) (p : L.Perm (J ++ L')) : Own w0 W L' := by
  have h2 := h.perm p
  clear h p
  induction J with
  | nil => exact h2
  | cons a J ih => exact ih h2.drop
theorem run_loadVar1 {P : Program} {W : World} {ty : TypeId} {d : TypeDesc} {ad : Addr} {v : Value} (hu : P.underlying ty = some d) (hd : (match d with | .struct _ | .array _ _ => true | _ => false) = false) (hc : W.cell? ad = some v) : (loadVar ty ad).run P W = .ok v W := by
  unfold loadVar
  simp [Sem.run_bind, run_isAgg_plain hu hd, Result.andThen, hc]
theorem run_method {P : Program} {W : World} {t : TypeId} {f : FuncId} {b : Bool} {nm : String} {x v : Value} (k : Nat) (hm : (P.info? t).map (fun ti => (ti.methods.find? (·.name == nm)).map fun m => (m.path.toList, m.func)) = some (some ([], some (f, b))))
    (hr : ∀ wr, (receiverAt t (.val x) b (some wr)).run P W = .ok v W) : (method (k + 1) t x nm).run P W = .ok (f, v) W := by
  cases hi : P.info? t with
  | none => rw [hi] at hm; simp at hm
  | some ti =>
    rw [hi] at hm
    simp only [Option.map_some, Option.some.injEq] at hm
    cases hq : ti.methods.find? (·.name == nm) with
    | none => rw [hq] at hm; simp at hm
    | some m =>
      rw [hq] at hm
      simp only [Option.map_some, Option.some.injEq, Prod.mk.injEq] at hm
      obtain ⟨h1, h2⟩ := hm
      have h3 : m.path.isEmpty = true := by rw [← Array.isEmpty_toList, h1]; rfl
      unfold method
      simp only [Sem.run_bind, run_typeInfo _ hi, Result.andThen, hq, h1, follow, Sem.run_pure, h2, h3, if_true, hr]
/-- A method that is called on what an interface value holds. -/
theorem run_callMethod {P : Program} {W : World} {t : TypeId} {f : FuncId} {b : Bool} {nm : String} {x v : Value} (args : Array Value) (hm : (P.info? t).map (fun ti => (ti.methods.find? (·.name == nm)).map fun m => (m.path.toList, m.func)) = some (some ([], some (f, b))))
    (hr : ∀ wr, (receiverAt t (.val x) b (some wr)).run P W = .ok v W) {fn : Func} (hf : P.funcs[f]? = some fn) (hname : (fn.name == "runtime.NumGoroutine") = false) (hb : fn.body.isSome = true) : (callMethod (.iface t x) nm args).run P W = .ok (.enter f (#[v] ++ args)) W := by
  unfold callMethod
  have hk : ∃ k, P.types.size + Made.depth = k + 1 := ⟨P.types.size + (Made.depth - 1), by unfold Made.depth; omega⟩
  obtain ⟨k, hk⟩ := hk
  have hp : (program).run P W = .ok P W := rfl
  simp only [Sem.run_bind, hp, Result.andThen, hk, run_method k hm hr]
  exact enters_ hf hname hb _ W
theorem recv_ptr {P : Program} {W : World} {t e : TypeId} {x : Value} (hu : P.underlying t = some (.pointer e)) (wr : String) : (receiverAt t (.val x) true (some wr)).run P W = .ok x W := by
  unfold receiverAt
  simp [Sem.run_bind, run_underlying hu, Result.andThen, Place.get]
theorem recv_val {P : Program} {W : World} {t e : TypeId} {d : TypeDesc} {ad : Addr} {v : Value} (hu : P.underlying t = some (.pointer e)) (hue : P.underlying e = some d) (hd : (match d with | .struct _ | .array _ _ => true | _ => false) = false) (hc : W.cell? ad = some v) (wr : String) :
    (receiverAt t (.val (.pointer (some ad))) false (some wr)).run P W = .ok v W := by
  unfold receiverAt
  have hw : ∀ a b : ByteArray, (Builtin.ssaWrapNilChk_ #[t] t #[.pointer (some ad), .string a, .string b]).run P W = .ok (.pointer (some ad)) W := fun a b => rfl
  simp [Sem.run_bind, run_underlying hu, Result.andThen, Place.get, hw, strVal, asAddr, run_loadVar1 hue hd hc]
theorem inv_Len {W : World} {g o : Nat} {v : Value} (h : W.cell? ⟨g, o, none⟩ = some v) (k : Nat) : (method (k + 1) 149 (.pointer (some ⟨g, o, none⟩)) "Len").run Try.prog W = .ok (173, v) W :=
  run_method k (by kernel_rfl) (recv_val Try.underlying149 Try.underlying145 rfl h)
theorem inv_Less {W : World} {g o : Nat} {v : Value} (h : W.cell? ⟨g, o, none⟩ = some v) (k : Nat) : (method (k + 1) 149 (.pointer (some ⟨g, o, none⟩)) "Less").run Try.prog W = .ok (174, v) W :=
  run_method k (by kernel_rfl) (recv_val Try.underlying149 Try.underlying145 rfl h)
theorem inv_Swap {W : World} {g o : Nat} {v : Value} (h : W.cell? ⟨g, o, none⟩ = some v) (k : Nat) : (method (k + 1) 149 (.pointer (some ⟨g, o, none⟩)) "Swap").run Try.prog W = .ok (175, v) W :=
  run_method k (by kernel_rfl) (recv_val Try.underlying149 Try.underlying145 rfl h)
theorem inv_Push {W : World} (x : Value) (k : Nat) : (method (k + 1) 149 x "Push").run Try.prog W = .ok (177, x) W :=
  run_method k (by kernel_rfl) (recv_ptr Try.underlying149)
theorem inv_Pop {W : World} (x : Value) (k : Nat) : (method (k + 1) 149 x "Pop").run Try.prog W = .ok (176, x) W :=
  run_method k (by kernel_rfl) (recv_ptr Try.underlying149)
theorem mkInt (x : Value) (W : World) : (Instr.makeInterface 3 x).run Try.prog W = .ok (.iface 3 x) W := run_makeInterface W 3 x (by kernel_rfl)
theorem mkFree (x : Value) (W : World) : (Instr.makeInterface 149 x).run Try.prog W = .ok (.iface 149 x) W := run_makeInterface W 149 x (by kernel_rfl)
theorem asInt (v : Value) (W : World) : (Instr.typeAssert (.iface 3 v) 20 3 false).run Try.prog W = .ok v W := by kernel_rfl
attribute [local go_sem] mkInt mkFree asInt
/-- The list in its block. -/
structure FRow (c : Nat) (cr : Array Value) (l : List Int) : Prop where
  sz : cr.size = c * 1
  le : l.length ≤ c
  cm : c ≤ maxLen
  tk : cr.toList.take (l.length * 1) = l.map (Value.int .i64)
theorem FRow.at {c : Nat} {cr : Array Value} {l : List Int} (h : FRow c cr l) {i : Nat} (hi : i < l.length) : cr[i]? = some (.int .i64 (l.getD i 0)) := by
  have h1 : (l.map (Value.int .i64))[i]? = some (.int .i64 (l.getD i 0)) := by simp [List.getElem?_eq_getElem hi]
  rw [← h.tk, List.getElem?_take] at h1
  split at h1
  · rw [← Array.getElem?_toList]; exact h1
  · cases h1
theorem FRow.swap {c : Nat} {cr : Array Value} {l : List Int} (h : FRow c cr l) {i j : Nat} (hi : i < l.length) (hj : j < l.length) : FRow c ((cr.setIfInBounds i (.int .i64 (l.getD j 0))).setIfInBounds j (.int .i64 (l.getD i 0))) (swp l i j) := by
  refine ⟨by simp only [Array.size_setIfInBounds]; exact h.sz, by rw [swp_len]; exact h.le, h.cm, ?_⟩
  rw [swp_len]
  have h1 := take_set (v := .int .i64 (l.getD j 0)) h.tk (j := i) (by omega)
  have h2 := take_set (v := .int .i64 (l.getD i 0)) h1 (j := j) (by omega)
  rw [h2]
  unfold swp
  rw [List.map_set, List.map_set]
theorem FRow.row {c gs : Nat} {cr : Array Value} {l : List Int} (h : FRow c cr l) : RowOf 3 1 [(gs, .cells cr 3 (0, 0))] (.slice (some ⟨gs, 0, none⟩) l.length c) l.length (l.map (Value.int .i64)) :=
  ⟨by simp, .inr ⟨gs, c, cr, rfl, rfl, h.le, h.cm, h.sz, h.tk⟩⟩
theorem FRow.of {A : Option Addr} {c : Nat} {R : Hl} {l : List Int} (h : RowOf 3 1 R (.slice A l.length c) l.length (l.map (Value.int .i64))) (hl : 0 < l.length) : ∃ gs cr, A = some ⟨gs, 0, none⟩ ∧ R = [(gs, .cells cr 3 (0, 0))] ∧ FRow c cr l := by
  obtain ⟨gs, cr, h1, h2, h3, h4, h5, h6, h7, _⟩ := RowOf.setAt h hl
  exact ⟨gs, cr, h1, h2, h4, h5, h7, h6⟩
set_option maxHeartbeats 8000000 in
set_option maxRecDepth 100000 in
theorem less_calls (w0 w : World) (L : Hl) (gs n c : Nat) (cr : Array Value) (l : List Int) (hF : FRow c cr l) (hn : l.length = n) (i j : Nat) (hi : i < n) (hj : j < n) (hO : Own w0 w ((gs, .cells cr 3 (0, 0)) :: L)) : Calls Try.prog 174 #[.slice (some ⟨gs, 0, none⟩) n c, .int .i64 (i : Int), .int .i64 (j : Int)] w fun e w' => e = .returned (.bool (decide (l.getD i 0 < l.getD j 0))) ∧ Own w0 w' ((gs, .cells cr 3 (0, 0)) :: L) := by
  have hui := Try.underlying3
  have p1 := eq_true (show 0 ≤ (i : Int) by omega)
  have q1 := eq_true (show (i : Int) < (n : Int) by omega)
  have q1n := eq_true hi
  have p2 := eq_true (show 0 ≤ (j : Int) by omega)
  have q2 := eq_true (show (j : Int) < (n : Int) by omega)
  have q2n := eq_true hj
  have HX := Aside0.mk (hF.at (show i < l.length by omega))
  have HY := Aside0.mk (hF.at (show j < l.length by omega))
  have HSZ : Aside0 (i < cr.size ∧ j < cr.size) := ⟨by have := hF.sz; have := hF.le; omega⟩
  obtain ⟨x, hx⟩ : ∃ x, l.getD i 0 = x := ⟨_, rfl⟩
  obtain ⟨y, hy⟩ : ∃ y, l.getD j 0 = y := ⟨_, rfl⟩
  rw [hx] at HX ⊢
  rw [hy] at HY ⊢
  have HO := Aside0.mk hO
  clear hO hi hj hx hy hF hn
  go_enter Try.func174, Try.ntmps174
  go_wp2
  refine start_ (n := 10) (S := fun W => Own w0 W ((gs, .cells cr 3 (0, 0)) :: [])) (ds := []) #[false, false, false, false, false, false, false, false, false, false] (by kernel_rfl) rfl rfl (Own.drew (HO.out.picks (.cons (by (repeat (first | exact .head | apply Ext.tail))) (.nil)))) (fun hHeld => ?_)
  have HO_ := Aside0.mk HO.out.drew
  clear HO
  have HO := HO_
  clear HO_
  generalize World.drew _ = wr at HO hHeld ⊢
  refine Hp.pu_ 0 7 (Hp.up 10 1) ?_
  refine Hp.pu_ 1 8 (Hp.up 10 2) ?_
  refine Hp.pu_ 2 9 (Hp.up 10 3) ?_
  refine take_ (i := 3) (N := some 10) (v := .int .i64 x) (a' := ?_) (Hp.up 10 4) rfl rfl (by kernel_rfl) (fun _ _ _ h => h) (own_yield1 (by rfl) (x := .tmp 9) rfl (by rfl) (.head) hui (by rfl) HX.out) hHeld ?_ ?_
  rotate_left
  · simp only [Act.put, List.setIfInBounds_toArray, List.set_cons_zero, List.set_cons_succ, i64_w, i32_w]
    rfl
  refine Hp.pu_ 4 11 (Hp.up 10 5) ?_
  refine Hp.pu_ 5 12 (Hp.up 10 6) ?_
  refine Hp.pu_ 6 13 (Hp.up 10 7) ?_
  refine take_ (i := 7) (N := some 14) (v := .int .i64 y) (a' := ?_) (Hp.up 10 8) rfl rfl (by kernel_rfl) (fun _ _ _ h => h) (own_yield1 (by rfl) (x := .tmp 13) rfl (by rfl) (.head) hui (by rfl) HY.out) hHeld ?_ ?_
  rotate_left
  · simp only [Act.put, List.setIfInBounds_toArray, List.set_cons_zero, List.set_cons_succ, i64_w, i32_w]
    rfl
  refine Hp.pu_ 8 15 (Hp.up 10 9) ?_
  refine Hp.pu_ 9 6 (Hp.up 10 10) ?_
  refine done_ (by kernel_rfl) ?_
  clear hHeld
  go_wp2
  go_ret
  exact ⟨rfl, HO.out⟩
set_option maxHeartbeats 8000000 in
set_option maxRecDepth 100000 in
theorem swap_calls (w0 w : World) (L : Hl) (gs n c : Nat) (cr : Array Value) (l : List Int) (hF : FRow c cr l) (hn : l.length = n) (i j : Nat) (hi : i < n) (hj : j < n) (hO : Own w0 w ((gs, .cells cr 3 (0, 0)) :: L)) : Calls Try.prog 175 #[.slice (some ⟨gs, 0, none⟩) n c, .int .i64 (i : Int), .int .i64 (j : Int)] w fun e w' => e = .returned (.tuple #[]) ∧ ∃ cr' l', l' = swp l i j ∧ FRow c cr' l' ∧ Own w0 w' ((gs, .cells cr' 3 (0, 0)) :: L) := by
  have hui := Try.underlying3
  have p1 := eq_true (show 0 ≤ (i : Int) by omega)
  have q1 := eq_true (show (i : Int) < (n : Int) by omega)
  have q1n := eq_true hi
  have p2 := eq_true (show 0 ≤ (j : Int) by omega)
  have q2 := eq_true (show (j : Int) < (n : Int) by omega)
  have q2n := eq_true hj
  have HX := Aside0.mk (hF.at (show i < l.length by omega))
  have HY := Aside0.mk (hF.at (show j < l.length by omega))
  have HSZ : Aside0 (i < cr.size ∧ j < cr.size) := ⟨by have := hF.sz; have := hF.le; omega⟩
  obtain ⟨x, hx⟩ : ∃ x, l.getD i 0 = x := ⟨_, rfl⟩
  obtain ⟨y, hy⟩ : ∃ y, l.getD j 0 = y := ⟨_, rfl⟩
  have HR := Aside0.mk (hF.swap (show i < l.length by omega) (show j < l.length by omega))
  rw [hx] at HX HR
  rw [hy] at HY HR
  have HO := Aside0.mk hO
  clear hO hi hj hx hy hF hn
  go_enter Try.func175, Try.ntmps175
  go_wp2
  refine start_ (n := 16) (S := fun W => Own w0 W ((gs, .cells cr 3 (0, 0)) :: [])) (ds := [13, 15]) #[false, false, false, false, false, false, false, false, false, false, false, false, false, false, false, false] (by kernel_rfl) rfl rfl (Own.drew (HO.out.picks (.cons (by (repeat (first | exact .head | apply Ext.tail))) (.nil)))) (fun hHeld => ?_)
  have HO_ := Aside0.mk HO.out.drew
  clear HO
  have HO := HO_
  clear HO_
  generalize World.drew _ = wr at HO hHeld ⊢
  refine Hp.pu_ 0 6 (Hp.up 16 1) ?_
  refine Hp.pu_ 1 7 (Hp.up 16 2) ?_
  refine Hp.pu_ 2 8 (Hp.up 16 3) ?_
  refine Hp.pu_ 3 9 (Hp.up 16 4) ?_
  refine Hp.pu_ 4 10 (Hp.up 16 5) ?_
  refine Hp.pu_ 5 11 (Hp.up 16 6) ?_
  refine Hp.pu_ 6 12 (Hp.up 16 7) ?_
  refine take_ (i := 7) (N := some 13) (v := .int .i64 y) (a' := ?_) (Hp.up 16 8) rfl rfl (by kernel_rfl) (fun _ _ _ h => h) (own_yield1 (by rfl) (x := .tmp 12) rfl (by rfl) (.head) hui (by rfl) HY.out) hHeld ?_ ?_
  rotate_left
  · simp only [Act.put, List.setIfInBounds_toArray, List.set_cons_zero, List.set_cons_succ, i64_w, i32_w]
    rfl
  refine Hp.pu_ 8 14 (Hp.up 16 9) ?_
  refine Hp.pu_ 9 15 (Hp.up 16 10) ?_
  refine Hp.pu_ 10 16 (Hp.up 16 11) ?_
  refine take_ (i := 11) (N := some 17) (v := .int .i64 x) (a' := ?_) (Hp.up 16 12) rfl rfl (by kernel_rfl) (fun _ _ _ h => h) (own_yield1 (by rfl) (x := .tmp 16) rfl (by rfl) (.head) hui (by rfl) HX.out) hHeld ?_ ?_
  rotate_left
  · simp only [Act.put, List.setIfInBounds_toArray, List.set_cons_zero, List.set_cons_succ, i64_w, i32_w]
    rfl
  refine Hp.pu_ 12 18 (Hp.up 16 13) ?_
  refine last_ (i := 13) (N := none) (Hp.up 16 14) rfl rfl (by kernel_rfl) (by decide) (fun K hK => ?_)
  refine own_store_k HO.out (by rfl) rfl (ty := 3) (x := .tmp 18) (y := .tmp 13) (v := .int .i64 y) (cs' := (cr.setIfInBounds i (.int .i64 y))) rfl (by rfl) (by rfl) .head (by kernel_rfl) (by rfl) HSZ.out.1 rfl ?_
  intro wc hO_
  clear HO; have HO := Aside0.mk hO_; clear hO_
  refine hK.out _ _ ?_
  clear hK K
  refine Hp.pu_ 14 19 (Hp.up 16 15) ?_
  refine last_ (i := 15) (N := none) (Hp.up 16 16) rfl rfl (by kernel_rfl) (by decide) (fun K hK => ?_)
  refine own_store_k HO.out (by rfl) rfl (ty := 3) (x := .tmp 19) (y := .tmp 17) (v := .int .i64 x) (cs' := ((cr.setIfInBounds i (.int .i64 y)).setIfInBounds j (.int .i64 x))) rfl (by rfl) (by rfl) .head (by kernel_rfl) (by rfl) (by rw [Array.size_setIfInBounds]; exact HSZ.out.2) rfl ?_
  intro wc hO_
  clear HO; have HO := Aside0.mk hO_; clear hO_
  refine hK.out _ _ ?_
  clear hK K
  refine done_ (by kernel_rfl) ?_
  clear hHeld
  (try go_wp2)
  (first | go_end0 | refine bodyPost_ret (results_none rfl _ _ _) rfl ?_)
  exact ⟨rfl, _, _, rfl, HR.out, HO.out⟩
set_option maxHeartbeats 8000000 in
set_option maxRecDepth 100000 in
theorem mpush_calls (w0 w : World) (L : Hl) (gh : Nat) (z0 z1 z3 : Value) (A : Option Addr) (n c : Nat) (R : Hl) (l : List Int) (hR : RowOf 3 1 R (.slice A n c) n (l.map (Value.int .i64))) (hn : n ≤ 1000) (x : Int) (hO : Own w0 w ((gh, .cells #[z0, z1, .slice A n c, z3] 147 (0, 0)) :: (R ++ L))) : Calls Try.prog 177 #[.pointer (some ⟨gh, 2, none⟩), .iface 3 (.int .i64 x)] w fun e w' => e = .returned (.tuple #[]) ∧ ∃ A2 n2 c2 R2, n2 = n + 1 ∧ RowOf 3 1 R2 (.slice A2 n2 c2) n2 ((l ++ [x]).map (Value.int .i64)) ∧ Own w0 w' ((gh, .cells #[z0, z1, .slice A2 n2 c2, z3] 147 (0, 0)) :: (R2 ++ L)) := by
  have huf := Try.underlying145
  have hui := Try.underlying3
  have HN : Aside0 (n + 1 ≤ maxLen ∧ (n + 1) * 8 ≤ 140737488355328) := ⟨⟨by show n + 1 ≤ 9223372036854775807; omega, by omega⟩⟩
  have HR := Aside0.mk hR
  have HO := Aside0.mk hO
  clear hO hR hn
  go_enter Try.func177, Try.ntmps177
  go_wp2
  refine start_ (n := 10) (S := fun W => Own w0 W ((gh, .cells #[z0, z1, .slice A n c, z3] 147 (0, 0)) :: [])) (ds := [9]) #[false, false, false, false, false, false, false, false, false, false] (by kernel_rfl) rfl rfl (Own.drew (HO.out.picks (.cons (by (repeat (first | exact .head | apply Ext.tail))) (.nil)))) (fun hHeld => ?_)
  have HO_ := Aside0.mk HO.out.drew
  clear HO
  have HO := HO_
  clear HO_
  generalize World.drew _ = wr at HO hHeld ⊢
  refine Hp.pu_ 0 4 (Hp.up 10 1) ?_
  refine Hp.pu_ 1 5 (Hp.up 10 2) ?_
  refine Hp.pu_ 2 6 (Hp.up 10 3) ?_
  refine take_ (i := 3) (N := some 7) (v := .slice A n c) (a' := ?_) (Hp.up 10 4) rfl rfl (by kernel_rfl) (fun _ _ _ h => h) (own_yield1 (by rfl) (x := .tmp 6) rfl (by rfl) (.head) Try.underlying145 (by rfl) (by rfl)) hHeld ?_ ?_
  rotate_left
  · simp only [Act.put, List.setIfInBounds_toArray, List.set_cons_zero, List.set_cons_succ, i64_w, i32_w]
    rfl
  refine Hp.pu_ 4 8 (Hp.up 10 5) ?_
  refine Hp.pu_ 5 9 (Hp.up 10 6) ?_
  refine one_ (i := 6) (N := some 10) (Hp.up 10 7) rfl rfl (by kernel_rfl) (by decide) (fun K hK => ?_)
  refine own_lit_k HO.out (by rfl) (N := 10) rfl (cs := #[.int .i64 x]) (t := 3) (n := 1) (m := 1) (by first | (go_simp; done) | (go_simp; rfl) | kernel_rfl) ?_
  intro g10 w10 hO_
  clear HO; have HO := Aside0.mk hO_; clear hO_
  refine hK.out _ _ (HO.out.picks (.cons (by (repeat (first | exact .head | apply Ext.tail))) (.nil))) (fun hHeld => ?_)
  clear hK K
  refine norm_ (a' := ?_) ?_ ?_
  rotate_left
  · show Act.put _ (some 10) _ = _
    simp only [Act.put, List.setIfInBounds_toArray, List.set_cons_zero, List.set_cons_succ, i64_w, i32_w]
    rfl
  refine one_ (i := 7) (N := some 11) (Hp.up 10 8) rfl rfl (by kernel_rfl) (by decide) (fun K hK => ?_)
  refine own_append_k (z := .int .i64 0) (size := 1) (bytes := 8) (R := R) (L := L) [(g10, .cells #[.int .i64 x] 3 (0, 0)), (gh, .cells #[z0, z1, .slice A n c, z3] 147 (0, 0))] HO.out (by rfl) (N := 11) rfl rfl huf (by kernel_rfl) rfl (by rfl) HR.out (by rfl) (HO.out.src huf .head 0 1 1 [.int .i64 x] rfl rfl (by simp [Value.oneCell'])) HN.out.1 HN.out.2 ?_
  intro v2 R2 wc hR2 hO_
  obtain ⟨A2, c2, rfl⟩ := RowOf.shape hR2
  have HR2 := Aside0.mk hR2
  clear hR2
  have hO_ : Own w0 wc ((g10, .cells #[.int .i64 x] 3 (0, 0)) :: (gh, .cells #[z0, z1, .slice A n c, z3] 147 (0, 0)) :: (R2 ++ L)) := hO_
  clear HO; have HO := Aside0.mk hO_; clear hO_
  refine hK.out _ _ (HO.out.picks (.cons (by (repeat (first | exact .head | apply Ext.tail))) (.nil))) (fun hHeld => ?_)
  clear hK K
  refine norm_ (a' := ?_) ?_ ?_
  rotate_left
  · show Act.put _ (some 11) _ = _
    simp only [Act.put, List.setIfInBounds_toArray, List.set_cons_zero, List.set_cons_succ, i64_w, i32_w]
    rfl
  refine Hp.pu_ 8 12 (Hp.up 10 9) ?_
  refine last_ (i := 9) (N := none) (Hp.up 10 10) rfl rfl (by kernel_rfl) (by decide) (fun K hK => ?_)
  refine own_store_k HO.out (by rfl) rfl (ty := 145) (x := .tmp 12) (y := .tmp 11) (v := .slice A2 (n + 1) c2) (cs' := #[z0, z1, .slice A2 (n + 1) c2, z3]) rfl (by rfl) (by rfl) (by (repeat (first | exact .head | apply Ext.tail))) (by kernel_rfl) (by rfl) (by first | decide | (simp; done)) (by rfl) ?_
  intro wc hO_
  clear HO; have HO := Aside0.mk hO_; clear hO_
  refine hK.out _ _ ?_
  clear hK K
  refine done_ (by kernel_rfl) ?_
  clear hHeld
  (try go_wp2)
  (first | go_end0 | refine bodyPost_ret (results_none rfl _ _ _) rfl ?_)
  exact ⟨rfl, A2, n + 1, c2, R2, rfl, by rw [List.map_append]; exact HR2.out, HO.out.twof.drop⟩
theorem sby_h {P : Program} {W : World} {n cap : Nat} {k : IntKind} {h : Nat} (h2 : h ≤ cap) : (Instr.sliceBounds true n cap none (some (.int k (h : Int))) none).run P W = .ok (0, h, cap) W := by
  simp [Instr.sliceBounds, run_sliceBound, *, (by omega : 0 ≤ (h : Int))]
theorem exec_slicey {P : Program} {o : Oper} {a : Act} {W : World} {t e : TypeId} {x : Operand} {lo hi mx : Option Operand} {A : Option Addr} {n cap size : Nat} {l h m : Nat} (ho : o.op = .slice t x lo hi mx) (ht : P.underlying t = some (.slice e)) (hi' : (P.info? e).map (·.size) = some size)
    (hx : a.eval x = .slice A n cap) (hb : (Instr.sliceBounds true n cap (lo.map a.eval) (hi.map a.eval) (mx.map a.eval)).run P W = .ok (l, h, m) W) {v : Value} (hv : .slice (if m = l then A else A.map (·.add (l * size))) (h - l) (m - l) = v) :
    (execOp a.eval o).run P W = .ok (.value v) W := by
  subst hv
  have hel : P.elem t = e := by unfold Program.elem; rw [ht]
  have ht' : P.underlying t = some (.slice (P.elem t)) := by rw [hel]; exact ht
  obtain ⟨ti, ht1, ht2⟩ : ∃ ti, P.info? e = some ti ∧ ti.size = size := by
    cases hq : P.info? e with
    | none => rw [hq] at hi'; simp at hi'
    | some ti => exact ⟨ti, rfl, by rw [hq] at hi'; simpa using hi'⟩
  have hs : (sizeOf e).run P W = .ok size W := by
    have := run_sizeOf W ht1
    rw [this]
    simp [Program.cellsOf, ht1, ht2]
  have hrun : (Instr.sliceAt t (.slice A n cap) (lo.map a.eval) (hi.map a.eval) (mx.map a.eval)).run P W = .ok (.slice (if m = l then A else A.map (·.add (l * size))) (h - l) (m - l)) W := by
    rw [run_sliceAt_slice W t _ _ _ _ ht', run_slice_any W t A n cap ht', hb, hel]
    simp only [Result.andThen, hs, sliced]
  unfold execOp
  rw [ho]
  simp only [hx, hrun, Sem.run_bind, Result.andThen]
  rfl
theorem FRow.take {c : Nat} {cr : Array Value} {l : List Int} (h : FRow c cr l) (m : Nat) (hm : m ≤ l.length) : FRow c cr (l.take m) := by
  refine ⟨h.sz, by rw [List.length_take]; have := h.le; omega, h.cm, ?_⟩
  have e : min m l.length = m := Nat.min_eq_left hm
  rw [List.length_take, e, List.map_take, ← h.tk, List.take_take]
  congr 1
  omega
set_option maxHeartbeats 8000000 in
set_option maxRecDepth 100000 in
theorem mpop_calls (w0 w : World) (L : Hl) (gh : Nat) (z0 z1 z3 : Value) (gs n c : Nat) (cr : Array Value) (l : List Int) (hF : FRow c cr l) (hl : l.length = n) (m : Nat) (hm : n = m + 1) (hn : n ≤ 1000) (x : Int) (hx : l.getD m 0 = x) (hO : Own w0 w ((gh, .cells #[z0, z1, .slice (some ⟨gs, 0, none⟩) n c, z3] 147 (0, 0)) :: (gs, .cells cr 3 (0, 0)) :: L)) : Calls Try.prog 176 #[.pointer (some ⟨gh, 2, none⟩)] w fun e w' => e = .returned (.iface 3 (.int .i64 x)) ∧ FRow c cr (l.take m) ∧ Own w0 w' ((gh, .cells #[z0, z1, .slice (some ⟨gs, 0, none⟩) m c, z3] 147 (0, 0)) :: (gs, .cells cr 3 (0, 0)) :: L) := by
  have huf := Try.underlying145
  have hui := Try.underlying3
  have HF := Aside0.mk (hF.take m (by omega))
  have HX : Aside0 (cr[m]? = some (.int .i64 x)) := ⟨by rw [← hx]; exact hF.at (by omega)⟩
  have HM : Aside0 (m ≤ c) := ⟨by have := hF.le; omega⟩
  have p1 := eq_true (show 0 ≤ (m : Int) by omega)
  have q1 := eq_true (show (m : Int) < (n : Int) by omega)
  have q1n := eq_true (show m < n by omega)
  have Wm := w_of (x := (n : Int) - 1) (y := (m : Int)) (by omega) (by omega)
  have u1 := Wm.out.1; have u1b := Wm.out.2
  have HO := Aside0.mk hO
  clear hO hF hl hm hn hx
  go_enter Try.func176, Try.ntmps176
  go_wp2_with (first | ((with_reducible refine gate_dst (N := 7) rfl ?_); refine own_load HO.out rfl (x := .tmp 6) (v := .slice (some ⟨gs, 0, none⟩) n c) rfl (by rfl) (by (repeat (first | exact .head | apply Ext.tail))) huf (by rfl) (by rfl) ?_) | ((with_reducible refine gate_dst (N := 13) rfl ?_); refine own_load HO.out rfl (x := .tmp 12) (v := .int .i64 x) rfl (by rfl) (.tail .head) hui (by rfl) HX.out ?_) | ((with_reducible refine gate_dst (N := 19) rfl ?_); refine Kd.event_run rfl (exec_slicey (size := 1) (l := 0) (h := m) (m := c) rfl huf (by kernel_rfl) (by rfl) (sby_h HM.out) (v := .slice (some ⟨gs, 0, none⟩) m c) (by simp [Addr.add])) ?_) | ((with_reducible refine gate_store (p := 20) rfl ?_); refine own_store HO.out rfl (ty := 145) (x := .tmp 20) (y := .tmp 19) (v := .slice (some ⟨gs, 0, none⟩) m c) (cs' := #[z0, z1, .slice (some ⟨gs, 0, none⟩) m c, z3]) rfl (by rfl) (by rfl) (by (repeat (first | exact .head | apply Ext.tail))) (by kernel_rfl) (by rfl) (by first | decide | (simp; done)) (by rfl) ?_; intro wc hO_; clear HO; have HO := Aside0.mk hO_; clear hO_))
  go_ret
  exact ⟨rfl, HF.out, HO.out⟩
theorem less_calls2 (w0 w : World) (L : Hl) (gs n c : Nat) (cr : Array Value) (l : List Int) (hF : FRow c cr l) (hn : l.length = n) (i j : Nat) (hi : i < n) (hj : j < n) (b : Bool) (hb : decide (l.getD i 0 < l.getD j 0) = b) (hO : Own w0 w ((gs, .cells cr 3 (0, 0)) :: L)) : Calls Try.prog 174 #[.slice (some ⟨gs, 0, none⟩) n c, .int .i64 (i : Int), .int .i64 (j : Int)] w fun e w' => e = .returned (.bool b) ∧ Own w0 w' ((gs, .cells cr 3 (0, 0)) :: L) := by
  subst hb
  exact less_calls w0 w L gs n c cr l hF hn i j hi hj hO
theorem tdiv2 (k : Nat) : Int.tdiv ((k : Nat) : Int) 2 = ((k / 2 : Nat) : Int) := by
  rw [Int.tdiv_eq_ediv_of_nonneg (by omega)]; rfl
set_option maxHeartbeats 8000000 in
set_option maxRecDepth 100000 in
theorem up_calls (w0 w : World) (L : Hl) (gh : Nat) (z0 z1 z3 : Value) (gs n c : Nat) (cr : Array Value) (l : List Int) (hF : FRow c cr l) (hl : l.length = n) (j : Nat) (hj : j < n) (hn : n ≤ 1000) (T : List Int) (hT : upF (j + 1) j l = T) (hO : Own w0 w ((gh, .cells #[z0, z1, .slice (some ⟨gs, 0, none⟩) n c, z3] 147 (0, 0)) :: (gs, .cells cr 3 (0, 0)) :: L)) : Calls Try.prog 115 #[.iface 149 (.pointer (some ⟨gh, 2, none⟩)), .int .i64 (j : Int)] w fun e w' => e = .returned (.tuple #[]) ∧ ∃ cr', FRow c cr' T ∧ Own w0 w' ((gh, .cells #[z0, z1, .slice (some ⟨gs, 0, none⟩) n c, z3] 147 (0, 0)) :: (gs, .cells cr' 3 (0, 0)) :: L) := by
  have HF := Aside0.mk hF
  have HL := Aside0.mk hl
  have HN := Aside0.mk hn
  have HT : Aside0 (j < n ∧ upF (j + 1) j l = T) := ⟨hj, hT⟩
  have HO := Aside0.mk hO
  clear hF hl hn hT hO hj
  go_enter Try.func115, Try.ntmps115
  go_wp2
  go_loopg [1] j (fun gk v1 w' => ∃ (j : Nat) (cr : Array Value) (l : List Int), v1 = .int .i64 (j : Int) ∧ Aside0 (j ≤ gk ∧ j < n ∧ upF (gk + 1) j l = T) ∧ Aside0 (FRow c cr l) ∧ Aside0 (l.length = n) ∧ Aside0 (Own w0 w' ((gh, .cells #[z0, z1, .slice (some ⟨gs, 0, none⟩) n c, z3] 147 (0, 0)) :: (gs, .cells cr 3 (0, 0)) :: L)))
  case atStart => exact ⟨j, cr, l, rfl, ⟨Nat.le_refl _, HT.out.1, HT.out.2⟩, HF, HL, HO⟩
  case round =>
    clear HO HF HL HT
    clear l cr j
    obtain ⟨j, cr, l, rfl, HT, HF, HL, HO⟩ := hrel
    have hcl : World.cell? _ ⟨gh, 2, none⟩ = some (.slice (some ⟨gs, 0, none⟩) n c) := (HO.out.cell .head 2).trans rfl
    have hiL := inv_Less hcl
    have hiS := inv_Swap hcl
    have hiN := inv_Len hcl
    clear hcl
    rcases Nat.eq_zero_or_pos j with rfl | hj
    · have e0 : upF (gk + 1) 0 l = l := by unfold upF; rfl
      have hT : l = T := e0.symm.trans HT.out.2.2
      subst hT
      clear HT
      go_wp2
      (first | go_end0 | refine bodyPost_ret (results_none rfl _ _ _) rfl ?_)
      exact ⟨rfl, cr, HF.out, HO.out⟩
    · obtain ⟨i, hi⟩ : ∃ i, (j - 1) / 2 = i := ⟨_, rfl⟩
      have hij : i < j := by omega
      obtain ⟨m, rfl⟩ : ∃ m, gk = m + 1 := ⟨gk - 1, by have := HT.out.1; omega⟩
      have hT := HT.out.2.2
      rw [upF, if_neg (by omega), hi] at hT
      have HIJ : Aside0 (j < n ∧ i < n) := ⟨by have := HT.out; omega⟩
      have HJI : Aside0 (i < n ∧ j < n) := ⟨by have := HT.out; omega⟩
      have HIM : Aside0 (i ≤ m) := ⟨by have := HT.out.1; omega⟩
      have W1 := w_of (x := (j : Int) - 1) (y := ((j - 1 : Nat) : Int)) (by omega) (by have := HN.out; have := HT.out; omega)
      have W2 := w_of (x := (i : Int)) (y := (i : Int)) rfl (by have := HN.out; have := HT.out; omega)
      have u1 := W1.out.1; have u1b := W1.out.2; have u2 := W2.out.1; have u2b := W2.out.2
      have u3 : Int.tdiv ((j - 1 : Nat) : Int) 2 = (i : Int) := by rw [tdiv2, hi]
      have e1 : ((i : Int) == (j : Int)) = false := beq_eq_false_iff_ne.mpr (by omega)
      have e1p := eq_false (show ¬ (i : Int) = (j : Int) by omega)
      have e1n := eq_false (show ¬ i = j by omega)
      by_cases hc : l.getD j 0 < l.getD i 0
      · have HB1 := Aside0.mk (decide_eq_true hc)
        rw [if_pos hc] at hT
        have HT2 := Aside0.mk hT
        clear hT HT hi hij hj hc W1 W2
        go_wp2_with (first | (go_at_call 174; (with_reducible refine (less_calls2 w0 _ ((gh, .cells #[z0, z1, .slice (some ⟨gs, 0, none⟩) n c, z3] 147 (0, 0)) :: L) gs n c cr l HF.out HL.out j i HIJ.out.1 HIJ.out.2 true HB1.out HO.out.twof).mono ?_); rintro e wk ⟨rfl, hO_⟩; have hO_ := hO_.twof; clear HO; have HO := Aside0.mk hO_; clear hO_; have hcl : World.cell? _ ⟨gh, 2, none⟩ = some (.slice (some ⟨gs, 0, none⟩) n c) := (HO.out.cell .head 2).trans rfl; have hiL := inv_Less hcl; have hiS := inv_Swap hcl; have hiN := inv_Len hcl; clear hcl; dsimp only) | (go_at_call 175; (with_reducible refine (swap_calls w0 _ ((gh, .cells #[z0, z1, .slice (some ⟨gs, 0, none⟩) n c, z3] 147 (0, 0)) :: L) gs n c cr l HF.out HL.out i j HJI.out.1 HJI.out.2 HO.out.twof).mono ?_); rintro e wk ⟨rfl, cr2, l2, hl2, hF2, hO_⟩; have HL2 := Aside0.mk hl2; have HF2 := Aside0.mk hF2; clear hl2 hF2; have hO_ := hO_.twof; clear HO hiL hiS hiN; have HO := Aside0.mk hO_; clear hO_; dsimp only))
        go_roundg m
        case measure => clear u1 u1b u2 u2b u3 e1 e1p e1n; omega
        case rel => exact ⟨i, cr2, l2, rfl, ⟨HIM.out, HJI.out.1, by rw [HL2.out]; exact HT2.out⟩, HF2, ⟨by rw [HL2.out, swp_len]; exact HL.out⟩, HO⟩
      · have HB1 := Aside0.mk (decide_eq_false hc)
        rw [if_neg hc] at hT
        subst hT
        clear HT hi hij hj hc W1 W2
        go_wp2_with (first | (go_at_call 174; (with_reducible refine (less_calls2 w0 _ ((gh, .cells #[z0, z1, .slice (some ⟨gs, 0, none⟩) n c, z3] 147 (0, 0)) :: L) gs n c cr l HF.out HL.out j i HIJ.out.1 HIJ.out.2 false HB1.out HO.out.twof).mono ?_); rintro e wk ⟨rfl, hO_⟩; have hO_ := hO_.twof; clear HO; have HO := Aside0.mk hO_; clear hO_; have hcl : World.cell? _ ⟨gh, 2, none⟩ = some (.slice (some ⟨gs, 0, none⟩) n c) := (HO.out.cell .head 2).trans rfl; have hiL := inv_Less hcl; have hiS := inv_Swap hcl; have hiN := inv_Len hcl; clear hcl; dsimp only))
        (first | go_end0 | refine bodyPost_ret (results_none rfl _ _ _) rfl ?_)
        exact ⟨rfl, cr, HF.out, HO.out⟩
set_option maxHeartbeats 8000000 in
set_option maxRecDepth 100000 in
theorem down_calls (w0 w : World) (L : Hl) (gh : Nat) (z0 z1 z3 : Value) (gs n c : Nat) (cr : Array Value) (l : List Int) (hF : FRow c cr l) (hl : l.length = n) (m : Nat) (hm : m ≤ n) (hn : n ≤ 1000) (T : List Int) (hT : downF (n + 1) m 0 l = T) (hO : Own w0 w ((gh, .cells #[z0, z1, .slice (some ⟨gs, 0, none⟩) n c, z3] 147 (0, 0)) :: (gs, .cells cr 3 (0, 0)) :: L)) : Calls Try.prog 116 #[.iface 149 (.pointer (some ⟨gh, 2, none⟩)), .int .i64 0, .int .i64 (m : Int)] w fun e w' => ∃ b : Bool, e = .returned (.bool b) ∧ ∃ cr', FRow c cr' T ∧ Own w0 w' ((gh, .cells #[z0, z1, .slice (some ⟨gs, 0, none⟩) n c, z3] 147 (0, 0)) :: (gs, .cells cr' 3 (0, 0)) :: L) := by
  have HF := Aside0.mk hF
  have HL := Aside0.mk hl
  have HN := Aside0.mk hn
  have HMN := Aside0.mk hm
  have HT := Aside0.mk hT
  have HO := Aside0.mk hO
  clear hF hl hn hT hO hm
  go_enter Try.func116, Try.ntmps116
  go_wp2
  go_loopg [7] n (fun gk v7 w' => ∃ (i : Nat) (cr : Array Value) (l : List Int), v7 = .int .i64 (i : Int) ∧ Aside0 (m - i ≤ gk ∧ i ≤ m ∧ downF (gk + 1) m i l = T) ∧ Aside0 (FRow c cr l) ∧ Aside0 (l.length = n) ∧ Aside0 (Own w0 w' ((gh, .cells #[z0, z1, .slice (some ⟨gs, 0, none⟩) n c, z3] 147 (0, 0)) :: (gs, .cells cr 3 (0, 0)) :: L)))
  case atStart => exact ⟨0, cr, l, rfl, ⟨by have := HMN.out; omega, by omega, HT.out⟩, HF, HL, HO⟩
  case round =>
    clear HO HF HL HT
    clear l cr
    obtain ⟨i, cr, l, rfl, HT, HF, HL, HO⟩ := hrel
    have hcl : World.cell? _ ⟨gh, 2, none⟩ = some (.slice (some ⟨gs, 0, none⟩) n c) := (HO.out.cell .head 2).trans rfl
    have hiL := inv_Less hcl
    have hiS := inv_Swap hcl
    have hiN := inv_Len hcl
    clear hcl
    obtain ⟨k0, hk0⟩ : ∃ k0 : Nat, k0 = 2 * i := ⟨_, rfl⟩
    obtain ⟨k1, hk1⟩ : ∃ k1 : Nat, k1 = k0 + 1 := ⟨_, rfl⟩
    obtain ⟨k2, hk2⟩ : ∃ k2 : Nat, k2 = k1 + 1 := ⟨_, rfl⟩
    have hiN : i ≤ 1000 := by have := HT.out; have := HMN.out; have := HN.out; omega
    have W1 := w_of (x := 2 * (i : Int)) (y := (k0 : Int)) (by omega) (by omega)
    have W2 := w_of (x := (k0 : Int) + 1) (y := (k1 : Int)) (by omega) (by omega)
    have W3 := w_of (x := (k1 : Int) + 1) (y := (k2 : Int)) (by omega) (by omega)
    have W4 := w_of (x := (i : Int) * 2) (y := (k0 : Int)) (by omega) (by omega)
    have u1 := W1.out.1; have u1b := W1.out.2; have u2 := W2.out.1; have u2b := W2.out.2; have u3 := W3.out.1; have u3b := W3.out.2; have u4 := W4.out.1; have u4b := W4.out.2
    have d1 : decide ((k1 : Int) < 0) = false := decide_eq_false (by omega)
    by_cases h1m : m ≤ k1
    · have c1 : decide ((m : Int) ≤ (k1 : Int)) = true := decide_eq_true (by omega)
      have c1n : decide (m ≤ k1) = true := decide_eq_true h1m
      have hT := HT.out.2.2
      rw [downF, if_pos (by omega)] at hT
      subst hT
      clear HT hk0 hk1 hk2 hiN h1m W1 W2 W3 W4
      go_wp2
      go_ret
      exact ⟨_, rfl, cr, HF.out, HO.out⟩
    · have c1 : decide ((m : Int) ≤ (k1 : Int)) = false := decide_eq_false (by omega)
      have c1n : decide (m ≤ k1) = false := decide_eq_false h1m
      obtain ⟨gm, rfl⟩ : ∃ gm, gk = gm + 1 := ⟨gk - 1, by have := HT.out.1; omega⟩
      have hT := HT.out.2.2
      rw [downF, if_neg (by omega)] at hT
      have HIN : Aside0 (i < n) := ⟨by have := HMN.out; omega⟩
      have HK1 : Aside0 (k1 < n) := ⟨by have := HMN.out; omega⟩
      have hi1 : k1 = 2 * i + 1 ∧ k2 = 2 * i + 2 := by omega
      by_cases h2m : k2 < m
      · have c2 : decide ((k2 : Int) < (m : Int)) = true := decide_eq_true (by omega)
        have c2n : decide (k2 < m) = true := decide_eq_true h2m
        have HK2 : Aside0 (k2 < n) := ⟨by have := HMN.out; omega⟩
        by_cases hb : l.getD k2 0 < l.getD k1 0
        · have HB1 := Aside0.mk (decide_eq_true hb)
          have hkid : kid m i l = k2 := by unfold kid; rw [← hi1.1, ← hi1.2, if_pos ⟨h2m, hb⟩]
          have HJN : Aside0 (k2 < n) := ⟨by have := HMN.out; omega⟩
          rw [hkid] at hT
          by_cases hc : l.getD k2 0 < l.getD i 0
          · have HB2 := Aside0.mk (decide_eq_true hc)
            rw [if_pos hc] at hT
            have HT2 : Aside0 (m - k2 ≤ gm ∧ k2 ≤ m ∧ downF (gm + 1) m k2 (swp l i k2) = T) := ⟨by have := HT.out; omega, by omega, hT⟩
            clear hT HT hc hkid hi1 W1 W2 W3 W4 h1m hb h2m hk0 hk1 hk2 hiN
            go_wp2_with (first | (go_at_call 174; (with_reducible refine (less_calls2 w0 _ ((gh, .cells #[z0, z1, .slice (some ⟨gs, 0, none⟩) n c, z3] 147 (0, 0)) :: L) gs n c cr l HF.out HL.out k2 k1 HK2.out HK1.out true HB1.out HO.out.twof).mono ?_); rintro e wk ⟨rfl, hO_⟩; have hO_ := hO_.twof; clear HO; have HO := Aside0.mk hO_; clear hO_; have hcl : World.cell? _ ⟨gh, 2, none⟩ = some (.slice (some ⟨gs, 0, none⟩) n c) := (HO.out.cell .head 2).trans rfl; have hiL := inv_Less hcl; have hiS := inv_Swap hcl; have hiN := inv_Len hcl; clear hcl; dsimp only) | (go_at_call 174; (with_reducible refine (less_calls2 w0 _ ((gh, .cells #[z0, z1, .slice (some ⟨gs, 0, none⟩) n c, z3] 147 (0, 0)) :: L) gs n c cr l HF.out HL.out k2 i HJN.out HIN.out true HB2.out HO.out.twof).mono ?_); rintro e wk ⟨rfl, hO_⟩; have hO_ := hO_.twof; clear HO; have HO := Aside0.mk hO_; clear hO_; have hcl : World.cell? _ ⟨gh, 2, none⟩ = some (.slice (some ⟨gs, 0, none⟩) n c) := (HO.out.cell .head 2).trans rfl; have hiL := inv_Less hcl; have hiS := inv_Swap hcl; have hiN := inv_Len hcl; clear hcl; dsimp only) | (go_at_call 175; (with_reducible refine (swap_calls w0 _ ((gh, .cells #[z0, z1, .slice (some ⟨gs, 0, none⟩) n c, z3] 147 (0, 0)) :: L) gs n c cr l HF.out HL.out i k2 HIN.out HJN.out HO.out.twof).mono ?_); rintro e wk ⟨rfl, cr2, l2, hl2, hF2, hO_⟩; have HL2 := Aside0.mk hl2; have HF2 := Aside0.mk hF2; clear hl2 hF2; have hO_ := hO_.twof; clear HO hiL hiS hiN; have HO := Aside0.mk hO_; clear hO_; dsimp only))
            go_roundg gm
            case measure => clear u1 u1b u2 u2b u3 u3b u4 u4b; omega
            case rel => exact ⟨k2, cr2, l2, rfl, ⟨HT2.out.1, HT2.out.2.1, by rw [HL2.out]; exact HT2.out.2.2⟩, HF2, ⟨by rw [HL2.out, swp_len]; exact HL.out⟩, HO⟩
          · have HB2 := Aside0.mk (decide_eq_false hc)
            rw [if_neg hc] at hT
            subst hT
            clear HT hc hkid hi1 W1 W2 W3 W4 h1m hb h2m hk0 hk1 hk2 hiN
            go_wp2_with (first | (go_at_call 174; (with_reducible refine (less_calls2 w0 _ ((gh, .cells #[z0, z1, .slice (some ⟨gs, 0, none⟩) n c, z3] 147 (0, 0)) :: L) gs n c cr l HF.out HL.out k2 k1 HK2.out HK1.out true HB1.out HO.out.twof).mono ?_); rintro e wk ⟨rfl, hO_⟩; have hO_ := hO_.twof; clear HO; have HO := Aside0.mk hO_; clear hO_; have hcl : World.cell? _ ⟨gh, 2, none⟩ = some (.slice (some ⟨gs, 0, none⟩) n c) := (HO.out.cell .head 2).trans rfl; have hiL := inv_Less hcl; have hiS := inv_Swap hcl; have hiN := inv_Len hcl; clear hcl; dsimp only) | (go_at_call 174; (with_reducible refine (less_calls2 w0 _ ((gh, .cells #[z0, z1, .slice (some ⟨gs, 0, none⟩) n c, z3] 147 (0, 0)) :: L) gs n c cr l HF.out HL.out k2 i HJN.out HIN.out false HB2.out HO.out.twof).mono ?_); rintro e wk ⟨rfl, hO_⟩; have hO_ := hO_.twof; clear HO; have HO := Aside0.mk hO_; clear hO_; have hcl : World.cell? _ ⟨gh, 2, none⟩ = some (.slice (some ⟨gs, 0, none⟩) n c) := (HO.out.cell .head 2).trans rfl; have hiL := inv_Less hcl; have hiS := inv_Swap hcl; have hiN := inv_Len hcl; clear hcl; dsimp only))
            go_ret
            exact ⟨_, rfl, cr, HF.out, HO.out⟩
        · have HB1 := Aside0.mk (decide_eq_false hb)
          have hkid : kid m i l = k1 := by unfold kid; rw [← hi1.1, ← hi1.2, if_neg (fun h => hb h.2)]
          have HJN : Aside0 (k1 < n) := ⟨by have := HMN.out; omega⟩
          rw [hkid] at hT
          by_cases hc : l.getD k1 0 < l.getD i 0
          · have HB2 := Aside0.mk (decide_eq_true hc)
            rw [if_pos hc] at hT
            have HT2 : Aside0 (m - k1 ≤ gm ∧ k1 ≤ m ∧ downF (gm + 1) m k1 (swp l i k1) = T) := ⟨by have := HT.out; omega, by omega, hT⟩
            clear hT HT hc hkid hi1 W1 W2 W3 W4 h1m hb h2m hk0 hk1 hk2 hiN
            go_wp2_with (first | (go_at_call 174; (with_reducible refine (less_calls2 w0 _ ((gh, .cells #[z0, z1, .slice (some ⟨gs, 0, none⟩) n c, z3] 147 (0, 0)) :: L) gs n c cr l HF.out HL.out k2 k1 HK2.out HK1.out false HB1.out HO.out.twof).mono ?_); rintro e wk ⟨rfl, hO_⟩; have hO_ := hO_.twof; clear HO; have HO := Aside0.mk hO_; clear hO_; have hcl : World.cell? _ ⟨gh, 2, none⟩ = some (.slice (some ⟨gs, 0, none⟩) n c) := (HO.out.cell .head 2).trans rfl; have hiL := inv_Less hcl; have hiS := inv_Swap hcl; have hiN := inv_Len hcl; clear hcl; dsimp only) | (go_at_call 174; (with_reducible refine (less_calls2 w0 _ ((gh, .cells #[z0, z1, .slice (some ⟨gs, 0, none⟩) n c, z3] 147 (0, 0)) :: L) gs n c cr l HF.out HL.out k1 i HJN.out HIN.out true HB2.out HO.out.twof).mono ?_); rintro e wk ⟨rfl, hO_⟩; have hO_ := hO_.twof; clear HO; have HO := Aside0.mk hO_; clear hO_; have hcl : World.cell? _ ⟨gh, 2, none⟩ = some (.slice (some ⟨gs, 0, none⟩) n c) := (HO.out.cell .head 2).trans rfl; have hiL := inv_Less hcl; have hiS := inv_Swap hcl; have hiN := inv_Len hcl; clear hcl; dsimp only) | (go_at_call 175; (with_reducible refine (swap_calls w0 _ ((gh, .cells #[z0, z1, .slice (some ⟨gs, 0, none⟩) n c, z3] 147 (0, 0)) :: L) gs n c cr l HF.out HL.out i k1 HIN.out HJN.out HO.out.twof).mono ?_); rintro e wk ⟨rfl, cr2, l2, hl2, hF2, hO_⟩; have HL2 := Aside0.mk hl2; have HF2 := Aside0.mk hF2; clear hl2 hF2; have hO_ := hO_.twof; clear HO hiL hiS hiN; have HO := Aside0.mk hO_; clear hO_; dsimp only))
            go_roundg gm
            case measure => clear u1 u1b u2 u2b u3 u3b u4 u4b; omega
            case rel => exact ⟨k1, cr2, l2, rfl, ⟨HT2.out.1, HT2.out.2.1, by rw [HL2.out]; exact HT2.out.2.2⟩, HF2, ⟨by rw [HL2.out, swp_len]; exact HL.out⟩, HO⟩
          · have HB2 := Aside0.mk (decide_eq_false hc)
            rw [if_neg hc] at hT
            subst hT
            clear HT hc hkid hi1 W1 W2 W3 W4 h1m hb h2m hk0 hk1 hk2 hiN
            go_wp2_with (first | (go_at_call 174; (with_reducible refine (less_calls2 w0 _ ((gh, .cells #[z0, z1, .slice (some ⟨gs, 0, none⟩) n c, z3] 147 (0, 0)) :: L) gs n c cr l HF.out HL.out k2 k1 HK2.out HK1.out false HB1.out HO.out.twof).mono ?_); rintro e wk ⟨rfl, hO_⟩; have hO_ := hO_.twof; clear HO; have HO := Aside0.mk hO_; clear hO_; have hcl : World.cell? _ ⟨gh, 2, none⟩ = some (.slice (some ⟨gs, 0, none⟩) n c) := (HO.out.cell .head 2).trans rfl; have hiL := inv_Less hcl; have hiS := inv_Swap hcl; have hiN := inv_Len hcl; clear hcl; dsimp only) | (go_at_call 174; (with_reducible refine (less_calls2 w0 _ ((gh, .cells #[z0, z1, .slice (some ⟨gs, 0, none⟩) n c, z3] 147 (0, 0)) :: L) gs n c cr l HF.out HL.out k1 i HJN.out HIN.out false HB2.out HO.out.twof).mono ?_); rintro e wk ⟨rfl, hO_⟩; have hO_ := hO_.twof; clear HO; have HO := Aside0.mk hO_; clear hO_; have hcl : World.cell? _ ⟨gh, 2, none⟩ = some (.slice (some ⟨gs, 0, none⟩) n c) := (HO.out.cell .head 2).trans rfl; have hiL := inv_Less hcl; have hiS := inv_Swap hcl; have hiN := inv_Len hcl; clear hcl; dsimp only))
            go_ret
            exact ⟨_, rfl, cr, HF.out, HO.out⟩
      · have c2 : decide ((k2 : Int) < (m : Int)) = false := decide_eq_false (by omega)
        have c2n : decide (k2 < m) = false := decide_eq_false h2m
        have hkid : kid m i l = k1 := by unfold kid; rw [← hi1.1, ← hi1.2, if_neg (fun h => h2m h.1)]
        have HJN : Aside0 (k1 < n) := ⟨by have := HMN.out; omega⟩
        rw [hkid] at hT
        by_cases hc : l.getD k1 0 < l.getD i 0
        · have HB2 := Aside0.mk (decide_eq_true hc)
          rw [if_pos hc] at hT
          have HT2 : Aside0 (m - k1 ≤ gm ∧ k1 ≤ m ∧ downF (gm + 1) m k1 (swp l i k1) = T) := ⟨by have := HT.out; omega, by omega, hT⟩
          clear hT HT hc hkid hi1 W1 W2 W3 W4 h1m h2m hk0 hk1 hk2 hiN
          go_wp2_with (first | (go_at_call 174; (with_reducible refine (less_calls2 w0 _ ((gh, .cells #[z0, z1, .slice (some ⟨gs, 0, none⟩) n c, z3] 147 (0, 0)) :: L) gs n c cr l HF.out HL.out k1 i HJN.out HIN.out true HB2.out HO.out.twof).mono ?_); rintro e wk ⟨rfl, hO_⟩; have hO_ := hO_.twof; clear HO; have HO := Aside0.mk hO_; clear hO_; have hcl : World.cell? _ ⟨gh, 2, none⟩ = some (.slice (some ⟨gs, 0, none⟩) n c) := (HO.out.cell .head 2).trans rfl; have hiL := inv_Less hcl; have hiS := inv_Swap hcl; have hiN := inv_Len hcl; clear hcl; dsimp only) | (go_at_call 175; (with_reducible refine (swap_calls w0 _ ((gh, .cells #[z0, z1, .slice (some ⟨gs, 0, none⟩) n c, z3] 147 (0, 0)) :: L) gs n c cr l HF.out HL.out i k1 HIN.out HJN.out HO.out.twof).mono ?_); rintro e wk ⟨rfl, cr2, l2, hl2, hF2, hO_⟩; have HL2 := Aside0.mk hl2; have HF2 := Aside0.mk hF2; clear hl2 hF2; have hO_ := hO_.twof; clear HO hiL hiS hiN; have HO := Aside0.mk hO_; clear hO_; dsimp only))
          go_roundg gm
          case measure => clear u1 u1b u2 u2b u3 u3b u4 u4b; omega
          case rel => exact ⟨k1, cr2, l2, rfl, ⟨HT2.out.1, HT2.out.2.1, by rw [HL2.out]; exact HT2.out.2.2⟩, HF2, ⟨by rw [HL2.out, swp_len]; exact HL.out⟩, HO⟩
        · have HB2 := Aside0.mk (decide_eq_false hc)
          rw [if_neg hc] at hT
          subst hT
          clear HT hc hkid hi1 W1 W2 W3 W4 h1m h2m hk0 hk1 hk2 hiN
          go_wp2_with (first | (go_at_call 174; (with_reducible refine (less_calls2 w0 _ ((gh, .cells #[z0, z1, .slice (some ⟨gs, 0, none⟩) n c, z3] 147 (0, 0)) :: L) gs n c cr l HF.out HL.out k1 i HJN.out HIN.out false HB2.out HO.out.twof).mono ?_); rintro e wk ⟨rfl, hO_⟩; have hO_ := hO_.twof; clear HO; have HO := Aside0.mk hO_; clear hO_; have hcl : World.cell? _ ⟨gh, 2, none⟩ = some (.slice (some ⟨gs, 0, none⟩) n c) := (HO.out.cell .head 2).trans rfl; have hiL := inv_Less hcl; have hiS := inv_Swap hcl; have hiN := inv_Len hcl; clear hcl; dsimp only))
          go_ret
          exact ⟨_, rfl, cr, HF.out, HO.out⟩
set_option maxHeartbeats 8000000 in
set_option maxRecDepth 100000 in
theorem len_calls (w0 w : World) (L : Hl) (A : Option Addr) (n c : Nat) (hO : Own w0 w L) : Calls Try.prog 173 #[.slice A n c] w fun e w' => e = .returned (.int .i64 (n : Int)) ∧ Own w0 w' L := by
  have HO := Aside0.mk hO
  clear hO
  go_enter Try.func173, Try.ntmps173
  go_wp2
  go_ret
  exact ⟨rfl, HO.out⟩
theorem swap_calls0 (w0 w : World) (L : Hl) (gs n c : Nat) (cr : Array Value) (l : List Int) (hF : FRow c cr l) (hn : l.length = n) (j : Nat) (hj : j < n) (hO : Own w0 w ((gs, .cells cr 3 (0, 0)) :: L)) : Calls Try.prog 175 #[.slice (some ⟨gs, 0, none⟩) n c, .int .i64 0, .int .i64 (j : Int)] w fun e w' => e = .returned (.tuple #[]) ∧ ∃ cr' l', l' = swp l 0 j ∧ FRow c cr' l' ∧ Own w0 w' ((gs, .cells cr' 3 (0, 0)) :: L) :=
  swap_calls w0 w L gs n c cr l hF hn 0 j (by omega) hj hO
attribute [local go_sem] inv_Push inv_Pop
set_option maxHeartbeats 8000000 in
set_option maxRecDepth 100000 in
theorem hpush_calls (w0 w : World) (L : Hl) (gh : Nat) (z0 z1 z3 : Value) (A : Option Addr) (n c : Nat) (R : Hl) (l : List Int) (hR : RowOf 3 1 R (.slice A n c) n (l.map (Value.int .i64))) (hl : l.length = n) (hn : n ≤ 900) (x : Int) (hO : Own w0 w ((gh, .cells #[z0, z1, .slice A n c, z3] 147 (0, 0)) :: (R ++ L))) : Calls Try.prog 82 #[.iface 149 (.pointer (some ⟨gh, 2, none⟩)), .iface 3 (.int .i64 x)] w fun e w' => e = .returned (.tuple #[]) ∧ ∃ A2 n2 c2 R2, n2 = n + 1 ∧ RowOf 3 1 R2 (.slice A2 n2 c2) n2 ((pushF l x).map (Value.int .i64)) ∧ Own w0 w' ((gh, .cells #[z0, z1, .slice A2 n2 c2, z3] 147 (0, 0)) :: (R2 ++ L)) := by
  have HR := Aside0.mk hR
  have HL := Aside0.mk hl
  have HN := Aside0.mk hn
  have HN2 : Aside0 (n ≤ 1000) := ⟨by omega⟩
  have HN3 : Aside0 (n + 1 ≤ 1000) := ⟨by omega⟩
  have HO := Aside0.mk hO
  have W1 := w_of (x := ((n + 1 : Nat) : Int) - 1) (y := (n : Int)) (by omega) (by omega)
  have W2 := w_of (x := (n : Int)) (y := (n : Int)) rfl (by omega)
  clear hR hl hn hO
  go_enter Try.func82, Try.ntmps82
  have u1 := W1.out.1; have u1b := W1.out.2; have u2 := W2.out.1; have u2b := W2.out.2
  go_wp2_with (first | (go_at_call 177; (with_reducible refine (mpush_calls w0 _ L gh z0 z1 z3 A n c R l HR.out HN2.out x HO.out).mono ?_); rintro e wk ⟨rfl, A2, n2, c2, R2, hn2, hR2, hO_⟩; subst hn2; (have hn3 : (l ++ [x]).length = n + 1 := by (rw [List.length_append, HL.out]; rfl)); rw [← hn3] at hR2; (obtain ⟨gs, cr, rfl, rfl, hF⟩ := FRow.of hR2 (by rw [hn3]; omega)); have HF := Aside0.mk hF; have HL2 := Aside0.mk hn3; clear hR2 hF hn3; clear HO; have HO := Aside0.mk hO_; clear hO_; have hcl : World.cell? _ ⟨gh, 2, none⟩ = some (.slice (some ⟨gs, 0, none⟩) (n + 1) c2) := (HO.out.cell .head 2).trans rfl; have hiN := inv_Len hcl; clear hcl; dsimp only) | (go_at_call 173; (with_reducible refine (len_calls w0 _ ((gh, .cells #[z0, z1, .slice (some ⟨gs, 0, none⟩) (n + 1) c2, z3] 147 (0, 0)) :: (gs, .cells cr 3 (0, 0)) :: L) (some ⟨gs, 0, none⟩) (n + 1) c2 HO.out).mono ?_); rintro e wk ⟨rfl, hO_⟩; clear HO; have HO := Aside0.mk hO_; clear hO_; dsimp only) | (go_at_call 115; (with_reducible refine (up_calls w0 _ L gh z0 z1 z3 gs (n + 1) c2 cr (l ++ [x]) HF.out HL2.out n (Nat.lt_succ_self n) HN3.out (pushF l x) (by unfold pushF; rw [HL.out]) HO.out).mono ?_); rintro e wk ⟨rfl, cr3, hF3, hO_⟩; have HF3 := Aside0.mk hF3; (have HPL : Aside0 ((pushF l x).length = n + 1) := ⟨by rw [push_len, HL.out]⟩); clear hF3; clear HO; have HO := Aside0.mk hO_; clear hO_; dsimp only))
  (first | go_end0 | refine bodyPost_ret (results_none rfl _ _ _) rfl ?_)
  exact ⟨rfl, some ⟨gs, 0, none⟩, n + 1, c2, [(gs, .cells cr3 3 (0, 0))], rfl, by rw [← HPL.out]; exact HF3.out.row, HO.out⟩
set_option maxHeartbeats 8000000 in
set_option maxRecDepth 100000 in
theorem hpop_calls (w0 w : World) (L : Hl) (gh : Nat) (z0 z1 z3 : Value) (A : Option Addr) (n c : Nat) (R : Hl) (l : List Int) (hR : RowOf 3 1 R (.slice A n c) n (l.map (Value.int .i64))) (hl : l.length = n) (hn : n ≤ 900) (m : Nat) (hm : n = m + 1) (x : Int) (hx : l.getD 0 0 = x) (hO : Own w0 w ((gh, .cells #[z0, z1, .slice A n c, z3] 147 (0, 0)) :: (R ++ L))) : Calls Try.prog 83 #[.iface 149 (.pointer (some ⟨gh, 2, none⟩))] w fun e w' => e = .returned (.iface 3 (.int .i64 x)) ∧ ∃ A2 c2 R2, RowOf 3 1 R2 (.slice A2 m c2) m ((popF l).map (Value.int .i64)) ∧ Own w0 w' ((gh, .cells #[z0, z1, .slice A2 m c2, z3] 147 (0, 0)) :: (R2 ++ L)) := by
  rw [← hl] at hR
  obtain ⟨gs, cr, rfl, rfl, hF⟩ := FRow.of hR (by omega)
  have hne : l ≠ [] := by intro h; rw [h] at hl; simp at hl; omega
  have HF := Aside0.mk hF
  have HL := Aside0.mk hl
  have HN := Aside0.mk hn
  have HMN : Aside0 (m < n ∧ m ≤ n ∧ n ≤ 1000) := ⟨by omega⟩
  have HM := Aside0.mk hm
  have HT : Aside0 (downF (n + 1) m 0 (swp l 0 m) = downF (l.length + 1) (l.length - 1) 0 (swp l 0 (l.length - 1))) := ⟨by rw [hl, hm]; rfl⟩
  have HX : Aside0 ((downF (n + 1) m 0 (swp l 0 m)).getD m 0 = x) := ⟨by rw [HT.out]; have := pop_last hne; rw [hl, hm] at this; rw [hl, hm]; exact this.trans hx⟩
  have HP : Aside0 ((downF (n + 1) m 0 (swp l 0 m)).take m = popF l) := ⟨by rw [HT.out]; unfold popF; rw [hl, hm]; rfl⟩
  have HPL : Aside0 ((popF l).length = m) := ⟨by rw [pop_len hne, hl, hm]; rfl⟩
  have HDL : Aside0 ((downF (n + 1) m 0 (swp l 0 m)).length = n) := ⟨by rw [downF_len, swp_len]; exact hl⟩
  have HO := Aside0.mk hO
  have W1 := w_of (x := (n : Int) - 1) (y := (m : Int)) (by omega) (by omega)
  clear hF hn hO hne hm hx hR hl
  have u1 := W1.out.1; have u1b := W1.out.2
  have hcl : World.cell? _ ⟨gh, 2, none⟩ = some (.slice (some ⟨gs, 0, none⟩) n c) := (HO.out.cell .head 2).trans rfl
  have hiL := inv_Less hcl
  have hiS := inv_Swap hcl
  have hiN := inv_Len hcl
  clear hcl
  go_enter Try.func83, Try.ntmps83
  go_wp2_with (first | (go_at_call 173; (with_reducible refine (len_calls w0 _ ((gh, .cells #[z0, z1, .slice (some ⟨gs, 0, none⟩) n c, z3] 147 (0, 0)) :: (gs, .cells cr 3 (0, 0)) :: L) (some ⟨gs, 0, none⟩) n c HO.out).mono ?_); rintro e wk ⟨rfl, hO_⟩; clear HO; have HO := Aside0.mk hO_; clear hO_; have hcl : World.cell? _ ⟨gh, 2, none⟩ = some (.slice (some ⟨gs, 0, none⟩) n c) := (HO.out.cell .head 2).trans rfl; have hiL := inv_Less hcl; have hiS := inv_Swap hcl; have hiN := inv_Len hcl; clear hcl; dsimp only) | (go_at_call 175; (with_reducible refine (swap_calls0 w0 _ ((gh, .cells #[z0, z1, .slice (some ⟨gs, 0, none⟩) n c, z3] 147 (0, 0)) :: L) gs n c cr l HF.out HL.out m HMN.out.1 HO.out.twof).mono ?_); rintro e wk ⟨rfl, cr2, l2, hl2, hF2, hO_⟩; subst hl2; have HF2 := Aside0.mk hF2; clear hF2; (have HL2 : Aside0 ((swp l 0 m).length = n) := ⟨by rw [swp_len]; exact HL.out⟩); have hO_ := hO_.twof; clear HO hiL hiS hiN; have HO := Aside0.mk hO_; clear hO_; dsimp only) | (go_at_call 116; (with_reducible refine (down_calls w0 _ L gh z0 z1 z3 gs n c cr2 (swp l 0 m) HF2.out HL2.out m HMN.out.2.1 HMN.out.2.2 (downF (n + 1) m 0 (swp l 0 m)) rfl HO.out).mono ?_); rintro e wk ⟨bb, rfl, cr3, hF3, hO_⟩; have HF3 := Aside0.mk hF3; clear hF3; clear HO; have HO := Aside0.mk hO_; clear hO_; dsimp only) | (go_at_call 176; (with_reducible refine (mpop_calls w0 _ L gh z0 z1 z3 gs n c cr3 _ HF3.out HDL.out m HM.out HMN.out.2.2 x HX.out HO.out).mono ?_); rintro e wk ⟨rfl, hF4, hO_⟩; have HF4 := Aside0.mk hF4; clear hF4; clear HO; have HO := Aside0.mk hO_; clear hO_; dsimp only))
  go_ret
  refine ⟨rfl, some ⟨gs, 0, none⟩, c, [(gs, .cells cr3 3 (0, 0))], ?_, HO.out⟩
  rw [← HPL.out, ← HP.out]
  exact HF4.out.row
end Go.Proofs.Hh
