/- Contracts of the ring's methods (ring.Ring), over lists of blocks; no conditions beyond each theorem's own. -/
import Derived.Test.YtgkdbhkbkpfbpaaAR
import Derived.Laws.IdiomCopy
import Derived.Lib.SliceRun
set_option linter.unusedVariables false
set_option linter.unusedSimpArgs false
namespace Go.Proofs.Rg
open Go.RowKit Go.Proofs.Ev Go.Proofs.Hp Go.Proofs.Ar Go.Proofs.YtgkdbhkbkpfbpaaW.PrintWords Go.Proofs.YtgkdbhkbkpfbpaaW.PrintLast Go.Proofs.YtgkdbhkbkpfbpaaW.PrintMore
attribute [local go_sem] max2_int min2_int max_two min_two max_three min_three max_four min_four eql_slice_nil
/-- A record: its number, its owner, its state, its bytes. -/
structure Rc where
  id : Int
  ow : Int
  st : Int
  b : List Int
def rcells : List Rc → List Value → List Value
  | r :: R, v :: V => .int .i64 r.id :: .int .i64 r.ow :: .int .i64 r.st :: v :: rcells R V
  | _, _ => []
/-- The records' bytes, each in a row of its own. -/
inductive BSt : Hl → List Value → List Rc → Prop
  | nil : BSt [] [] []
  | cons {B T : Hl} {v : Value} {V : List Value} {r : Rc} {R : List Rc} (h : RowOf 5 1 B v r.b.length (r.b.map (Value.int .u8))) (k : BSt T V R) : BSt (B ++ T) (v :: V) (r :: R)
theorem BSt.len {T : Hl} {V : List Value} {R : List Rc} (h : BSt T V R) : V.length = R.length := by
  induction h with
  | nil => rfl
  | cons _ _ ih => simp [ih]
theorem BSt.at {T : Hl} {V : List Value} {R : List Rc} (h : BSt T V R) : ∀ (i : Nat) (r : Rc), R[i]? = some r → ∃ T1 B T2 v, T = T1 ++ (B ++ T2) ∧ V[i]? = some v ∧ RowOf 5 1 B v r.b.length (r.b.map (Value.int .u8)) ∧
    ∀ B' v' r', RowOf 5 1 B' v' r'.b.length (r'.b.map (Value.int .u8)) → BSt (T1 ++ (B' ++ T2)) (V.set i v') (R.set i r') := by
  induction h with
  | nil => intro i r h; simp at h
  | @cons B T v V r R h k ih =>
    intro i q hq
    cases i with
    | zero =>
      simp only [List.getElem?_cons_zero, Option.some.injEq] at hq
      subst hq
      exact ⟨[], B, T, v, rfl, rfl, h, fun B' v' r' h' => BSt.cons (B := B') (T := T) h' k⟩
    | succ i =>
      obtain ⟨T1, B1, T2, u, rfl, h2, h3, h4⟩ := ih i q (by simpa using hq)
      refine ⟨B ++ T1, B1, T2, u, by simp, by simpa using h2, h3, fun B' v' r' h' => ?_⟩
      have := BSt.cons h (h4 B' v' r' h')
      simpa using this
theorem BSt.app {T T' : Hl} {V V' : List Value} {R R' : List Rc} (h : BSt T V R) (h' : BSt T' V' R') : BSt (T ++ T') (V ++ V') (R ++ R') := by
  induction h with
  | nil => exact h'
  | cons h k ih => have := BSt.cons h ih; simpa using this
theorem BSt.split {T : Hl} {V : List Value} {R : List Rc} (h : BSt T V R) : ∀ k : Nat, ∃ T1 T2, T = T1 ++ T2 ∧ BSt T1 (V.take k) (R.take k) ∧ BSt T2 (V.drop k) (R.drop k) := by
  induction h with
  | nil => intro k; exact ⟨[], [], rfl, by simp [BSt.nil], by simp [BSt.nil]⟩
  | @cons B T v V r R h k ih =>
    intro j
    cases j with
    | zero => exact ⟨[], B ++ T, rfl, .nil, .cons h k⟩
    | succ j =>
      obtain ⟨T1, T2, rfl, h1, h2⟩ := ih j
      exact ⟨B ++ T1, T2, by simp, .cons h h1, h2⟩
theorem rcells_len : ∀ (R : List Rc) (V : List Value), V.length = R.length → (rcells R V).length = R.length * 4
  | [], [], _ => rfl
  | r :: R, v :: V, h => by simp only [rcells, List.length_cons, rcells_len R V (by simpa using h)]; omega
  | r :: R, [], h => by cases h
  | [], v :: V, h => by cases h
theorem rcells_app : ∀ (R : List Rc) (V : List Value) (R' : List Rc) (V' : List Value), V.length = R.length → rcells (R ++ R') (V ++ V') = rcells R V ++ rcells R' V'
  | [], [], _, _, _ => rfl
  | r :: R, v :: V, R', V', h => by simp only [List.cons_append, rcells, rcells_app R V R' V' (by simpa using h)]
  | r :: R, [], _, _, h => by cases h
  | [], v :: V, _, _, h => by cases h
theorem rcells_at : ∀ (R : List Rc) (V : List Value) (i : Nat) (r : Rc) (v : Value), R[i]? = some r → V[i]? = some v →
    (rcells R V)[i * 4]? = some (.int .i64 r.id) ∧ (rcells R V)[i * 4 + 1]? = some (.int .i64 r.ow) ∧ (rcells R V)[i * 4 + 2]? = some (.int .i64 r.st) ∧ (rcells R V)[i * 4 + 3]? = some v
  | [], _, _, _, _, h, _ => by simp at h
  | _ :: _, [], _, _, _, _, h => by simp at h
  | q :: R, u :: V, 0, r, v, h1, h2 => by
    simp only [List.getElem?_cons_zero, Option.some.injEq] at h1 h2
    subst h1 h2
    exact ⟨rfl, rfl, rfl, rfl⟩
  | q :: R, u :: V, i + 1, r, v, h1, h2 => by
    have ih := rcells_at R V i r v (by simpa using h1) (by simpa using h2)
    have e : (i + 1) * 4 = i * 4 + 1 + 1 + 1 + 1 := by omega
    rw [e]
    simpa [rcells] using ih
theorem rcells_set3 : ∀ (R : List Rc) (V : List Value) (i : Nat) (v : Value), (rcells R V).set (i * 4 + 3) v = rcells R (V.set i v)
  | [], V, i, v => by simp [rcells]
  | _ :: _, [], i, v => by simp [rcells]
  | q :: R, u :: V, 0, v => rfl
  | q :: R, u :: V, i + 1, v => by
    have ih := rcells_set3 R V i v
    have e : (i + 1) * 4 + 3 = (i * 4 + 3) + 1 + 1 + 1 + 1 := by omega
    rw [e]
    simp only [rcells, List.set_cons_succ, ih]
theorem rcells_set2 : ∀ (R : List Rc) (V : List Value) (i : Nat) (r : Rc) (s : Int), R[i]? = some r → (rcells R V).set (i * 4 + 2) (.int .i64 s) = rcells (R.set i { r with st := s }) V
  | [], V, i, r, s, h => by simp at h
  | _ :: _, [], i, r, s, h => by cases i <;> simp [rcells]
  | q :: R, u :: V, 0, r, s, h => by
    simp only [List.getElem?_cons_zero, Option.some.injEq] at h
    subst h
    rfl
  | q :: R, u :: V, i + 1, r, s, h => by
    have ih := rcells_set2 R V i r s (by simpa using h)
    have e : (i + 1) * 4 + 2 = (i * 4 + 2) + 1 + 1 + 1 + 1 := by omega
    rw [e]
    simp only [rcells, List.set_cons_succ, ih]
theorem rcells_drop : ∀ (R : List Rc) (V : List Value) (k : Nat), rcells (R.drop k) (V.drop k) = (rcells R V).drop (k * 4)
  | R, V, 0 => by simp
  | [], V, k + 1 => by simp [rcells]
  | _ :: _, [], k + 1 => by simp [rcells]
  | r :: R, v :: V, k + 1 => by
    have ih := rcells_drop R V k
    have e : (k + 1) * 4 = k * 4 + 1 + 1 + 1 + 1 := by omega
    rw [e]
    simpa [rcells] using ih
theorem rcells_b : ∀ (R : List Rc) (V : List Value) (i : Nat) (r : Rc) (b : List Int), R[i]? = some r → rcells (R.set i { r with b := b }) V = rcells R V
  | [], V, i, r, b, h => by simp at h
  | _ :: _, [], i, r, b, h => by cases i <;> simp [rcells]
  | q :: R, u :: V, 0, r, b, h => by
    simp only [List.getElem?_cons_zero, Option.some.injEq] at h
    subst h
    rfl
  | q :: R, u :: V, i + 1, r, b, h => by
    have ih := rcells_b R V i r b (by simpa using h)
    simp only [rcells, List.set_cons_succ, ih]
theorem rcells_one : ∀ (R : List Rc) (V : List Value), (∀ v ∈ V, v.oneCell' = true) → ∀ u ∈ rcells R V, u.oneCell' = true
  | [], V, _, u, h => by simp [rcells] at h
  | _ :: _, [], _, u, h => by simp [rcells] at h
  | r :: R, v :: V, hV, u, h => by
    simp only [rcells, List.mem_cons] at h
    rcases h with rfl | rfl | rfl | rfl | h
    · rfl
    · rfl
    · rfl
    · exact hV _ (List.mem_cons_self ..)
    · exact rcells_one R V (fun v hv => hV v (List.mem_cons_of_mem _ hv)) u h
theorem BSt.one {T : Hl} {V : List Value} {R : List Rc} (h : BSt T V R) : ∀ v ∈ V, v.oneCell' = true := by
  induction h with
  | nil => intro v h; cases h
  | cons h k ih =>
    intro u hu
    rcases List.mem_cons.1 hu with rfl | hu
    · obtain ⟨A, c, rfl⟩ := RowOf.shape h
      rfl
    · exact ih u hu
/-- A ring's records. -/
structure RSt (X : Hl) (A : Option Addr) (n c : Nat) (R : List Rc) : Prop where
  ex : ∃ RR T V, X = RR ++ T ∧ RowOf 135 4 RR (.slice A n c) n (rcells R V) ∧ BSt T V R
  len : R.length = n
  le : n ≤ 64
  bs : ∀ r ∈ R, r.b.length ≤ 32
theorem RSt.nil : RSt [] none 0 0 [] := ⟨⟨[], [], [], rfl, RowOf.none _ _, .nil⟩, rfl, by decide, fun r h => by cases h⟩
theorem RSt.cells {X L : Hl} {A : Option Addr} {n c : Nat} {R : List Rc} (h : RSt X A n c R) {w0 W : World} (HO : Own w0 W (X ++ L)) {i : Nat} {r : Rc} (hi : R[i]? = some r) :
    ∃ gs Ab cb, A = some ⟨gs, 0, none⟩ ∧ W.cell? ⟨gs, i * 4, none⟩ = some (.int .i64 r.id) ∧ W.cell? ⟨gs, i * 4 + 1, none⟩ = some (.int .i64 r.ow) ∧ W.cell? ⟨gs, i * 4 + 2, none⟩ = some (.int .i64 r.st) ∧ W.cell? ⟨gs, i * 4 + 3, none⟩ = some (.slice Ab r.b.length cb) := by
  obtain ⟨RR, T, V, rfl, hR, hB⟩ := h.ex
  have hil : i < R.length := by
    rcases Nat.lt_or_ge i R.length with h' | h'
    · exact h'
    · rw [List.getElem?_eq_none h'] at hi; cases hi
  have HO' : Own w0 W (RR ++ (T ++ L)) := by rw [← List.append_assoc]; exact HO
  obtain ⟨T1, B, T2, v, _, hv, hrow, _⟩ := hB.at i r hi
  obtain ⟨Ab, cb, rfl⟩ := RowOf.shape hrow
  obtain ⟨gs, cap, hs, _, _, _, _, hcell⟩ := hR.cells HO' (by have := h.len; omega)
  simp only [Value.slice.injEq] at hs
  obtain ⟨rfl, _, rfl⟩ := hs
  obtain ⟨k0, k1, k2, k3⟩ := rcells_at R V i r _ hi hv
  exact ⟨gs, Ab, cb, rfl, hcell _ _ k0, hcell _ _ k1, hcell _ _ k2, hcell _ _ k3⟩
/-- How many bytes records take. -/
def used : List Rc → Nat
  | [] => 0
  | r :: R => r.b.length + 8 + used R
theorem used_le : ∀ R : List Rc, (∀ r ∈ R, r.b.length ≤ 32) → used R ≤ 40 * R.length
  | [], _ => Nat.le_refl _
  | r :: R, h => by
    have h1 := h r (List.mem_cons_self ..)
    have h2 := used_le R fun x hx => h x (List.mem_cons_of_mem _ hx)
    simp only [used, List.length_cons]; omega
theorem used_app : ∀ R R' : List Rc, used (R ++ R') = used R + used R'
  | [], R' => by simp [used]
  | r :: R, R' => by simp only [List.cons_append, used, used_app R R']; omega
theorem w_of {x y : Int} (h : x = y) (hb : -1000000 ≤ y ∧ y ≤ 1000000) : Aside0 (IntKind.i64.wrap x = y ∧ wrap64 x = y) := by
  subst h
  have h1 : IntKind.i64.wrap x = x := IntWalk.i64_in _ (by omega)
  exact ⟨h1, (i64_w _).symm.trans h1⟩
set_option maxHeartbeats 8000000 in
set_option maxRecDepth 100000 in
theorem rnew_ok (w0 w : World) (L : Hl) (room : Int) (h : 1 ≤ room ∧ room ≤ 256) (hO : Own w0 w L) :
    Calls Try.prog 25 #[.int .i64 room] w fun e w' => ∃ gr, e = .returned (.tuple #[.pointer (some ⟨gr, 0, none⟩), .int .i64 0]) ∧ Own w0 w' ((gr, .cells #[.int .i64 room, .int .i64 0, .int .i64 0, .slice none 0 0] 133 (0, 0)) :: L) := by
  have HO := Aside0.mk hO
  have c1 : decide (room < 1) = false := decide_eq_false (by omega)
  have c2 : decide (256 < room) = false := decide_eq_false (by omega)
  clear h hO
  go_enter Try.func25, Try.ntmps25
  go_wp2_with (first | ((with_reducible refine gate_dst (N := 12) rfl ?_); refine own_box HO.out ?hg (N := 12) ?hd (cs := #[.int .i64 room, .int .i64 0, .int .i64 0, .slice none 0 0]) (t := 133) ?hr ?_; (case hd => rfl); (case hg => rfl); (case hr => first | (go_simp; done) | (go_simp; rfl) | kernel_rfl); intro g12 w12 hO_; clear HO; have HO := Aside0.mk hO_; clear hO_))
  refine bodyPost_ret (results_tmp2 rfl _ _ _) rfl ?_
  exact ⟨_, rfl, HO.out⟩
set_option maxHeartbeats 8000000 in
set_option maxRecDepth 100000 in
theorem rnew_bad (w : World) (room : Int) (h : ¬ (1 ≤ room ∧ room ≤ 256)) :
    Calls Try.prog 25 #[.int .i64 room] w fun e w' => e = .returned (.tuple #[.pointer none, .int .i64 22]) ∧ w' = w := by
  by_cases h1 : room < 1
  · have c1 : decide (room < 1) = true := decide_eq_true h1
    clear h h1
    go_enter Try.func25, Try.ntmps25
    go_wp2
    refine bodyPost_ret (results_tmp2 rfl _ _ _) rfl ?_
    exact ⟨rfl, rfl⟩
  · have c1 : decide (room < 1) = false := decide_eq_false h1
    have c2 : decide (256 < room) = true := decide_eq_true (by omega)
    clear h h1
    go_enter Try.func25, Try.ntmps25
    go_wp2
    refine bodyPost_ret (results_tmp2 rfl _ _ _) rfl ?_
    exact ⟨rfl, rfl⟩
set_option maxHeartbeats 8000000 in
set_option maxRecDepth 100000 in
theorem drops_calls (w0 w : World) (L X : Hl) (gr : Nat) (room drops nxt : Int) (A : Option Addr) (n c : Nat) (R : List Rc) (hS : RSt X A n c R) (hO : Own w0 w ((gr, .cells #[.int .i64 room, .int .i64 drops, .int .i64 nxt, .slice A n c] 133 (0, 0)) :: (X ++ L))) : Calls Try.prog 27 #[.pointer (some ⟨gr, 0, none⟩)] w fun e w' => e = .returned (.int .i64 drops) ∧ Own w0 w' ((gr, .cells #[.int .i64 room, .int .i64 drops, .int .i64 nxt, .slice A n c] 133 (0, 0)) :: (X ++ L)) := by
  have hui := Try.underlying3
  have hul := Try.underlying32
  have hu8 := Try.underlying5
  have hur := Try.underlying135
  have hurs := Try.underlying131
  have HO : Aside0 (Own w0 w ((gr, .cells #[.int .i64 room, .int .i64 drops, .int .i64 nxt, .slice A n c] 133 (0, 0)) :: (X ++ L))) := ⟨hO⟩
  have HS := Aside0.mk hS
  clear hO hS
  go_enter Try.func27, Try.ntmps27
  go_wp2_with (first | ((with_reducible refine gate_dst (N := 8) rfl ?_); refine own_load HO.out rfl (x := .tmp 7) (v := .int .i64 drops) rfl (by rfl) (by (repeat (first | exact .head | apply Ext.tail))) hui (by rfl) (by rfl) ?_))
  go_ret
  exact ⟨rfl, HO.out⟩
set_option maxHeartbeats 8000000 in
set_option maxRecDepth 100000 in
theorem used_calls (w0 w : World) (L X : Hl) (gr : Nat) (room drops nxt : Int) (A : Option Addr) (n c : Nat) (R : List Rc) (hS : RSt X A n c R) (hO : Own w0 w ((gr, .cells #[.int .i64 room, .int .i64 drops, .int .i64 nxt, .slice A n c] 133 (0, 0)) :: (X ++ L))) : Calls Try.prog 32 #[.pointer (some ⟨gr, 0, none⟩)] w fun e w' => e = .returned (.int .i64 (used R : Int)) ∧ Own w0 w' ((gr, .cells #[.int .i64 room, .int .i64 drops, .int .i64 nxt, .slice A n c] 133 (0, 0)) :: (X ++ L)) := by
  have hui := Try.underlying3
  have hul := Try.underlying32
  have hu8 := Try.underlying5
  have hur := Try.underlying135
  have hurs := Try.underlying131
  have HO : Aside0 (Own w0 w ((gr, .cells #[.int .i64 room, .int .i64 drops, .int .i64 nxt, .slice A n c] 133 (0, 0)) :: (X ++ L))) := ⟨hO⟩
  have HS := Aside0.mk hS
  clear hO hS
  obtain ⟨t, ht⟩ : ∃ t : Nat, used R = t := ⟨_, rfl⟩
  have HT : Aside0 (used R = t ∧ t ≤ 2560) := ⟨ht, by have := used_le R HS.out.bs; have := HS.out.len; have := HS.out.le; omega⟩
  rw [ht]
  clear ht
  go_enter Try.func32, Try.ntmps32
  go_wp2_with (first | ((with_reducible refine gate_dst (N := 11) rfl ?_); refine own_load HO.out rfl (x := .tmp 10) (v := .slice A n c) rfl (by rfl) (by (repeat (first | exact .head | apply Ext.tail))) hurs (by rfl) (by rfl) ?_))
  go_loopg [3, 13] n (fun gk v3 v13 w' => ∃ i u : Nat, v13 = .int .i64 (i : Int) ∧ v3 = .int .i64 (u : Int) ∧ Aside0 (i + gk = n) ∧ Aside0 (u + used (R.drop i) = t) ∧ Aside0 (Own w0 w' ((gr, .cells #[.int .i64 room, .int .i64 drops, .int .i64 nxt, .slice A n c] 133 (0, 0)) :: (X ++ L))))
  case atStart => exact ⟨0, 0, rfl, rfl, ⟨Nat.zero_add _⟩, ⟨by rw [Nat.zero_add]; exact HT.out.1⟩, HO⟩
  case round =>
    clear HO
    obtain ⟨i, u, rfl, rfl, HI, HF, HO⟩ := hrel
    cases gk with
    | zero =>
      have c1 : decide ((i : Int) < (n : Int)) = false := decide_eq_false (by have := HI.out; omega)
      have c1n : decide (i < n) = false := decide_eq_false (by have := HI.out; omega)
      have hu : u = t := by have := HF.out; rw [List.drop_eq_nil_of_le (by have := HI.out; have := HS.out.len; omega)] at this; exact this
      subst hu
      go_wp2
      go_ret
      exact ⟨rfl, HO.out⟩
    | succ m =>
      have hin : i < n := by have := HI.out; omega
      have hi : i < R.length := by have := HI.out; have := HS.out.len; omega
      have c1 : decide ((i : Int) < (n : Int)) = true := decide_eq_true (by omega)
      have c1n : decide (i < n) = true := decide_eq_true hin
      have p1 := eq_true (show 0 ≤ (i : Int) by omega)
      have q1 := eq_true (show (i : Int) < (n : Int) by omega)
      have q1n := eq_true hin
      have hri : R[i]? = some R[i] := List.getElem?_eq_getElem hi
      obtain ⟨gs, Ab, cb, rfl, hx0, hx1, hx2, hx3⟩ := HS.out.cells HO.out.drop hri
      have hd : R.drop i = R[i] :: R.drop (i + 1) := List.drop_eq_getElem_cons hi
      have HF2 := HF.out
      rw [hd] at HF2
      unfold used at HF2
      have hbl : R[i].b.length ≤ 32 := HS.out.bs _ (List.getElem_mem hi)
      clear hri hd HF
      generalize R[i] = r at hx0 hx1 hx2 hx3 HF2 hbl
      have HF3 : Aside0 (u + (r.b.length + 8) + used (R.drop (i + 1)) = t) := ⟨by omega⟩
      obtain ⟨m8, hm8⟩ : ∃ m8 : Nat, m8 = r.b.length + 8 := ⟨_, rfl⟩
      obtain ⟨u2, hu2⟩ : ∃ u2 : Nat, u2 = u + m8 := ⟨_, rfl⟩
      have HF4 : Aside0 (u2 + used (R.drop (i + 1)) = t) := ⟨by rw [hu2, hm8]; exact HF3.out⟩
      have W1 := w_of (x := (i : Int) + 1) (y := ((i + 1 : Nat) : Int)) (by omega) (by have := HS.out.le; omega)
      have W2 := w_of (x := (r.b.length : Int) + 8) (y := (m8 : Int)) (by omega) (by omega)
      have W3 := w_of (x := (u : Int) + (m8 : Int)) (y := (u2 : Int)) (by omega) (by have := HT.out; have := HF4.out; omega)
      clear HF2 HF3 hbl hm8 hu2 hin hi
      have u1 := W1.out.1; have u1b := W1.out.2; have u3 := W2.out.1; have u3b := W2.out.2; have u4 := W3.out.1; have u4b := W3.out.2
      go_wp2_with (first | ((with_reducible refine gate_dst (N := 5) rfl ?_); refine own_box HO.out ?hg (N := 5) ?hd (cs := #[.int .i64 0, .int .i64 0, .int .i64 0, .slice none 0 0]) (t := 135) ?hr ?_; (case hd => rfl); (case hg => rfl); (case hr => first | (go_simp; done) | (go_simp; rfl) | kernel_rfl); intro g5 w5 hO_; clear HO; have HO := Aside0.mk hO_; clear hO_) | ((with_reducible refine gate_store (p := 5) rfl ?_); refine own_wstore HO.out rfl (ty := 135) (x := .tmp 5) (y := .tmp 16) (cs := #[.int .i64 r.id, .int .i64 r.ow, .int .i64 r.st, .slice Ab r.b.length cb]) rfl (by rfl) (by rfl) (by (repeat (first | exact .head | apply Ext.tail))) (by kernel_rfl) (by rfl) (by kernel_rfl) ?_; intro wc hO_; clear HO; have HO := Aside0.mk hO_; clear hO_) | ((with_reducible refine gate_dst (N := 19) rfl ?_); refine own_load HO.out rfl (x := .tmp 18) (v := .slice Ab r.b.length cb) rfl (by rfl) (by (repeat (first | exact .head | apply Ext.tail))) hul (by rfl) (by rfl) ?_))
      go_roundg m
      case measure => clear u1 u1b u3 u3b u4 u4b; omega
      case rel => exact ⟨i + 1, u2, rfl, rfl, ⟨by clear u1 u1b u3 u3b u4 u4b; have := HI.out; omega⟩, HF4, ⟨HO.out.drop⟩⟩
set_option maxHeartbeats 8000000 in
set_option maxRecDepth 100000 in
theorem rclo (w0 w : World) (L : Hl) (g3 : Nat) (a ow st x : Int) (Ab : Option Addr) (m cb : Nat) (t : Bool) (ht : (a == x && st == 0) = t) (hO : Own w0 w ((g3, .cells #[.int .i64 x] 3 (0, 0)) :: L)) :
    Calls Try.prog 112 #[.agg #[.int .i64 a, .int .i64 ow, .int .i64 st, .slice Ab m cb], .pointer (some ⟨g3, 0, none⟩)] w fun e w' => e = .returned (.bool t) ∧ Own w0 w' ((g3, .cells #[.int .i64 x] 3 (0, 0)) :: L) := by
  have hui := Try.underlying3
  have hul := Try.underlying32
  have hu8 := Try.underlying5
  have hur := Try.underlying135
  have hurs := Try.underlying131
  have HO := Aside0.mk hO
  have HT := Aside0.mk ht
  clear hO ht
  by_cases h1 : a = x
  · by_cases h2 : st = 0
    · subst h1 h2
      have h : t = true := by have := HT.out; simpa using this.symm
      subst h
      clear HT
      go_enter Try.func112, Try.ntmps112
      go_wp2_with (first | ((with_reducible refine gate_dst (N := 2) rfl ?_); refine own_box HO.out ?hg (N := 2) ?hd (cs := #[.int .i64 a, .int .i64 ow, .int .i64 0, .slice Ab m cb]) (t := 135) ?hr ?_; (case hd => rfl); (case hg => rfl); (case hr => first | (go_simp; done) | (go_simp; rfl) | kernel_rfl); intro g2 w2 hO_; clear HO; have HO := Aside0.mk hO_; clear hO_; have hk2 : World.cell? w2 ⟨g2, 2, none⟩ = some (.int .i64 0) := (HO.out.cell .head 2).trans rfl) | ((with_reducible refine gate_dst (N := 5) rfl ?_); refine own_load HO.out rfl (x := .tmp 4) (v := .int .i64 a) rfl (by rfl) (by (repeat (first | exact .head | apply Ext.tail))) hui (by rfl) (by rfl) ?_) | ((with_reducible refine gate_dst (N := 6) rfl ?_); refine own_load HO.out rfl (x := .tmp 1) (v := .int .i64 a) rfl (by rfl) (by (repeat (first | exact .head | apply Ext.tail))) hui (by rfl) (by rfl) ?_))
      go_ret
      exact ⟨by simp, HO.out.drop⟩
    · have e2 : (st == 0) = false := beq_eq_false_iff_ne.mpr h2
      have h2' := eq_false h2
      subst h1
      have h : t = false := by have := HT.out; rw [e2] at this; simpa using this.symm
      subst h
      clear HT h2
      go_enter Try.func112, Try.ntmps112
      go_wp2_with (first | ((with_reducible refine gate_dst (N := 2) rfl ?_); refine own_box HO.out ?hg (N := 2) ?hd (cs := #[.int .i64 a, .int .i64 ow, .int .i64 st, .slice Ab m cb]) (t := 135) ?hr ?_; (case hd => rfl); (case hg => rfl); (case hr => first | (go_simp; done) | (go_simp; rfl) | kernel_rfl); intro g2 w2 hO_; clear HO; have HO := Aside0.mk hO_; clear hO_; have hk2 : World.cell? w2 ⟨g2, 2, none⟩ = some (.int .i64 st) := (HO.out.cell .head 2).trans rfl) | ((with_reducible refine gate_dst (N := 5) rfl ?_); refine own_load HO.out rfl (x := .tmp 4) (v := .int .i64 a) rfl (by rfl) (by (repeat (first | exact .head | apply Ext.tail))) hui (by rfl) (by rfl) ?_) | ((with_reducible refine gate_dst (N := 6) rfl ?_); refine own_load HO.out rfl (x := .tmp 1) (v := .int .i64 a) rfl (by rfl) (by (repeat (first | exact .head | apply Ext.tail))) hui (by rfl) (by rfl) ?_))
      go_ret
      exact ⟨by simp, HO.out.drop⟩
  · have e1 : (a == x) = false := beq_eq_false_iff_ne.mpr h1
    have h1' := eq_false h1
    have h : t = false := by have := HT.out; rw [e1] at this; simpa using this.symm
    subst h
    clear HT h1
    go_enter Try.func112, Try.ntmps112
    go_wp2_with (first | ((with_reducible refine gate_dst (N := 2) rfl ?_); refine own_box HO.out ?hg (N := 2) ?hd (cs := #[.int .i64 a, .int .i64 ow, .int .i64 st, .slice Ab m cb]) (t := 135) ?hr ?_; (case hd => rfl); (case hg => rfl); (case hr => first | (go_simp; done) | (go_simp; rfl) | kernel_rfl); intro g2 w2 hO_; clear HO; have HO := Aside0.mk hO_; clear hO_; have hk2 : World.cell? w2 ⟨g2, 2, none⟩ = some (.int .i64 st) := (HO.out.cell .head 2).trans rfl) | ((with_reducible refine gate_dst (N := 5) rfl ?_); refine own_load HO.out rfl (x := .tmp 4) (v := .int .i64 a) rfl (by rfl) (by (repeat (first | exact .head | apply Ext.tail))) hui (by rfl) (by rfl) ?_) | ((with_reducible refine gate_dst (N := 6) rfl ?_); refine own_load HO.out rfl (x := .tmp 1) (v := .int .i64 x) rfl (by rfl) (by (repeat (first | exact .head | apply Ext.tail))) hui (by rfl) (by rfl) ?_))
    go_ret
    exact ⟨by simp, HO.out.drop⟩
/-- The place of a held record; -1: there is none. -/
def rfind (x : Int) : List Rc → Nat → Int
  | [], _ => -1
  | r :: R, i => if r.id = x ∧ r.st = 0 then (i : Int) else rfind x R (i + 1)
theorem rfind_some {x : Int} : ∀ (R : List Rc) (j k : Nat), rfind x R j = (k : Int) → ∃ i r, k = j + i ∧ R[i]? = some r ∧ r.id = x ∧ r.st = 0
  | [], _, _, h => by unfold rfind at h; omega
  | r :: R, j, k, h => by
    unfold rfind at h
    split at h
    · rename_i hc
      exact ⟨0, r, by omega, rfl, hc.1, hc.2⟩
    · obtain ⟨i, q, h1, h2, h3⟩ := rfind_some R (j + 1) k h
      exact ⟨i + 1, q, by omega, by simpa using h2, h3⟩
theorem rfind_lt {x : Int} {R : List Rc} {k : Nat} (h : rfind x R 0 = (k : Int)) : k < R.length := by
  obtain ⟨i, r, h1, h2, _⟩ := rfind_some R 0 k h
  have : i < R.length := by
    rcases Nat.lt_or_ge i R.length with h' | h'
    · exact h'
    · rw [List.getElem?_eq_none h'] at h2; cases h2
  omega
set_option maxHeartbeats 8000000 in
set_option maxRecDepth 100000 in
theorem ridx (w0 w : World) (L X : Hl) (g3 : Nat) (x : Int) (A : Option Addr) (n c : Nat) (R : List Rc) (hS : RSt X A n c R) (r : Int) (hr : rfind x R 0 = r) (hO : Own w0 w ((g3, .cells #[.int .i64 x] 3 (0, 0)) :: (X ++ L))) :
    Calls Try.prog 111 #[.slice A n c, .func (.func 112) #[] #[.pointer (some ⟨g3, 0, none⟩)]] w fun e w' => e = .returned (.int .i64 r) ∧ Own w0 w' ((g3, .cells #[.int .i64 x] 3 (0, 0)) :: (X ++ L)) := by
  have hui := Try.underlying3
  have hul := Try.underlying32
  have hu8 := Try.underlying5
  have hur := Try.underlying135
  have hurs := Try.underlying131
  have HO : Aside0 (Own w0 w ((g3, .cells #[.int .i64 x] 3 (0, 0)) :: (X ++ L))) := ⟨hO⟩
  have HS := Aside0.mk hS
  clear hO hS
  go_enter Try.func111, Try.ntmps111
  go_wp2
  go_loopg [8] n (fun gk v8 w' => ∃ i : Nat, v8 = .int .i64 (i : Int) ∧ Aside0 (i + gk = n) ∧ Aside0 (rfind x (R.drop i) i = r) ∧ Aside0 (Own w0 w' ((g3, .cells #[.int .i64 x] 3 (0, 0)) :: (X ++ L))))
  case atStart => exact ⟨0, rfl, ⟨by omega⟩, ⟨hr⟩, HO⟩
  case round =>
    clear HO hr
    obtain ⟨i, rfl, HI, HF, HO⟩ := hrel
    cases gk with
    | zero =>
      have c1 : decide ((i : Int) < (n : Int)) = false := decide_eq_false (by have := HI.out; omega)
      have c1n : decide (i < n) = false := decide_eq_false (by have := HI.out; omega)
      have hr : r = -1 := by have := HF.out; rw [List.drop_eq_nil_of_le (by have := HI.out; have := HS.out.len; omega)] at this; exact this.symm
      subst hr
      go_wp2
      go_ret
      exact ⟨rfl, HO.out⟩
    | succ m =>
      have hin : i < n := by have := HI.out; omega
      have hi : i < R.length := by have := HI.out; have := HS.out.len; omega
      have c1 : decide ((i : Int) < (n : Int)) = true := decide_eq_true (by omega)
      have c1n : decide (i < n) = true := decide_eq_true hin
      have hiw : IntKind.i64.wrap ((i : Int) + 1) = ((i + 1 : Nat) : Int) := (IntWalk.i64_in _ (by have := HS.out.le; omega)).trans (by omega)
      have hiw2 : wrap64 ((i : Int) + 1) = ((i + 1 : Nat) : Int) := (i64_w _).symm.trans hiw
      have p1 := eq_true (show 0 ≤ (i : Int) by omega)
      have q1 := eq_true (show (i : Int) < (n : Int) by omega)
      have q1n := eq_true hin
      have hri : R[i]? = some R[i] := List.getElem?_eq_getElem hi
      obtain ⟨gs, Ab, cb, rfl, hx0, hx1, hx2, hx3⟩ := HS.out.cells HO.out.drop hri
      have hd : R.drop i = R[i] :: R.drop (i + 1) := List.drop_eq_getElem_cons hi
      have HF2 := HF.out
      rw [hd] at HF2
      unfold rfind at HF2
      clear hri hd HF
      generalize R[i] = q at hx0 hx1 hx2 hx3 HF2
      obtain ⟨k1, k2, k3, k4⟩ := q
      dsimp only at hx0 hx1 hx2 hx3 HF2
      by_cases hk : k1 = x ∧ k3 = 0
      · have HT : Aside0 ((k1 == x && k3 == 0) = true) := ⟨by simp [hk.1, hk.2]⟩
        have hr : (i : Int) = r := by rw [if_pos hk] at HF2; exact HF2
        subst hr
        clear HF2 hk hi hin
        go_wp2_with (first | (go_at_call 112; refine (rclo w0 _ (X ++ L) g3 k1 k2 k3 x Ab k4.length cb true HT.out HO.out).mono ?_; rintro e wk ⟨rfl, hO_⟩; clear HO; have HO := Aside0.mk hO_; clear hO_; dsimp only))
        go_ret
        exact ⟨rfl, HO.out⟩
      · have HT : Aside0 ((k1 == x && k3 == 0) = false) := ⟨by
          cases h1 : (k1 == x)
          · rfl
          · cases h2 : (k3 == 0)
            · rfl
            · exact absurd ⟨beq_iff_eq.mp h1, beq_iff_eq.mp h2⟩ hk⟩
        have HF3 : Aside0 (rfind x (R.drop (i + 1)) (i + 1) = r) := ⟨by rw [if_neg hk] at HF2; exact HF2⟩
        clear HF2 hk hi hin
        go_wp2_with (first | (go_at_call 112; refine (rclo w0 _ (X ++ L) g3 k1 k2 k3 x Ab k4.length cb false HT.out HO.out).mono ?_; rintro e wk ⟨rfl, hO_⟩; clear HO; have HO := Aside0.mk hO_; clear hO_; dsimp only))
        go_roundg m
        case measure => omega
        case rel => exact ⟨i + 1, rfl, ⟨by have := HI.out; omega⟩, HF3, HO⟩
theorem _root_.Go.Proofs.Hp.Own.swap4r {w0 W : World} {S B R L : Hl} (h : Own w0 W (S ++ (B ++ (R ++ L)))) : Own w0 W (S ++ (R ++ (B ++ L))) := h.perm (List.Perm.append_left S (by rw [← List.append_assoc, ← List.append_assoc]; exact List.Perm.append_right _ List.perm_append_comm))
set_option maxHeartbeats 8000000 in
set_option maxRecDepth 100000 in
theorem rfind_no (w0 w : World) (L X : Hl) (gr : Nat) (room drops nxt : Int) (A : Option Addr) (n c : Nat) (R : List Rc) (hS : RSt X A n c R) (x : Int) (hf : rfind x R 0 = -1) (hO : Own w0 w ((gr, .cells #[.int .i64 room, .int .i64 drops, .int .i64 nxt, .slice A n c] 133 (0, 0)) :: (X ++ L))) : Calls Try.prog 78 #[.pointer (some ⟨gr, 0, none⟩), .int .i64 x] w fun e w' => e = .returned (.pointer none) ∧ Own w0 w' ((gr, .cells #[.int .i64 room, .int .i64 drops, .int .i64 nxt, .slice A n c] 133 (0, 0)) :: (X ++ L)) := by
  have HF := Aside0.mk hf
  clear hf
  have hui := Try.underlying3
  have hul := Try.underlying32
  have hu8 := Try.underlying5
  have hur := Try.underlying135
  have hurs := Try.underlying131
  have HO : Aside0 (Own w0 w ((gr, .cells #[.int .i64 room, .int .i64 drops, .int .i64 nxt, .slice A n c] 133 (0, 0)) :: (X ++ L))) := ⟨hO⟩
  have HS := Aside0.mk hS
  clear hO hS
  go_enter Try.func78, Try.ntmps78
  go_wp2_with (first | ((with_reducible refine gate_dst (N := 3) rfl ?_); refine own_box HO.out ?hg (N := 3) ?hd (cs := #[.int .i64 x]) (t := 3) ?hr ?_; (case hd => rfl); (case hg => rfl); (case hr => first | (go_simp; done) | (go_simp; rfl) | kernel_rfl); intro g3 w3 hO_; clear HO; have HO := Aside0.mk hO_; clear hO_) | ((with_reducible refine gate_dst (N := 11) rfl ?_); refine own_load HO.out rfl (x := .tmp 10) (v := .slice A n c) rfl (by rfl) (by (repeat (first | exact .head | apply Ext.tail))) hurs (by rfl) (by rfl) ?_) | ((with_reducible refine gate_callee (f := 111) rfl ?_); (with_reducible refine gate_dst (N := 13) rfl ?_); refine goesL_ (some 13) rfl rfl Try.func111 (by kernel_rfl) rfl #[.slice A n c, .func (.func 112) #[] #[.pointer (some ⟨g3, 0, none⟩)]] rfl (by (try simp only [List.map_toArray, List.map_cons, List.map_nil]); first | done | rfl) ?_; (with_reducible refine (ridx w0 _ ((gr, .cells #[.int .i64 room, .int .i64 drops, .int .i64 nxt, .slice A n c] 133 (0, 0)) :: L) X g3 x A n c R HS.out _ HF.out (Own.swap4r (S := [(g3, .cells #[.int .i64 x] 3 (0, 0))]) (B := [(gr, .cells #[.int .i64 room, .int .i64 drops, .int .i64 nxt, .slice A n c] 133 (0, 0))]) HO.out)).mono ?_); rintro e wx ⟨rfl, hO_⟩; refine ⟨_, rfl, ?_⟩; have hO_ := Own.swap4r (S := [(g3, .cells #[.int .i64 x] 3 (0, 0))]) (B := X) (R := [(gr, .cells #[.int .i64 room, .int .i64 drops, .int .i64 nxt, .slice A n c] 133 (0, 0))]) hO_; clear HO; have HO := Aside0.mk hO_; clear hO_) | ((with_reducible refine gate_dst (N := 19) rfl ?_); refine own_load HO.out rfl (x := .tmp 18) (v := .slice A n c) rfl (by rfl) (by (repeat (first | exact .head | apply Ext.tail))) hurs (by rfl) (by rfl) ?_))
  go_ret
  exact ⟨rfl, HO.out.drop⟩
set_option maxHeartbeats 8000000 in
set_option maxRecDepth 100000 in
theorem rfind_has (w0 w : World) (L X : Hl) (gr : Nat) (room drops nxt : Int) (A : Option Addr) (n c : Nat) (R : List Rc) (hS : RSt X A n c R) (x : Int) (i gs : Nat) (hA : A = some ⟨gs, 0, none⟩) (hf : rfind x R 0 = (i : Int)) (hO : Own w0 w ((gr, .cells #[.int .i64 room, .int .i64 drops, .int .i64 nxt, .slice A n c] 133 (0, 0)) :: (X ++ L))) : Calls Try.prog 78 #[.pointer (some ⟨gr, 0, none⟩), .int .i64 x] w fun e w' => e = .returned (.pointer (some ⟨gs, i * 4, none⟩)) ∧ Own w0 w' ((gr, .cells #[.int .i64 room, .int .i64 drops, .int .i64 nxt, .slice A n c] 133 (0, 0)) :: (X ++ L)) := by
  subst hA
  have hin : i < n := by have := rfind_lt hf; rw [hS.len] at this; exact this
  have HF := Aside0.mk hf
  have c1 : decide ((i : Int) < 0) = false := decide_eq_false (by omega)
  have p1 := eq_true (show 0 ≤ (i : Int) by omega)
  have q1 := eq_true (show (i : Int) < (n : Int) by omega)
  have q1n := eq_true hin
  clear hf hin
  have hui := Try.underlying3
  have hul := Try.underlying32
  have hu8 := Try.underlying5
  have hur := Try.underlying135
  have hurs := Try.underlying131
  have HO : Aside0 (Own w0 w ((gr, .cells #[.int .i64 room, .int .i64 drops, .int .i64 nxt, .slice (some ⟨gs, 0, none⟩) n c] 133 (0, 0)) :: (X ++ L))) := ⟨hO⟩
  have HS := Aside0.mk hS
  clear hO hS
  go_enter Try.func78, Try.ntmps78
  go_wp2_with (first | ((with_reducible refine gate_dst (N := 3) rfl ?_); refine own_box HO.out ?hg (N := 3) ?hd (cs := #[.int .i64 x]) (t := 3) ?hr ?_; (case hd => rfl); (case hg => rfl); (case hr => first | (go_simp; done) | (go_simp; rfl) | kernel_rfl); intro g3 w3 hO_; clear HO; have HO := Aside0.mk hO_; clear hO_) | ((with_reducible refine gate_dst (N := 11) rfl ?_); refine own_load HO.out rfl (x := .tmp 10) (v := .slice (some ⟨gs, 0, none⟩) n c) rfl (by rfl) (by (repeat (first | exact .head | apply Ext.tail))) hurs (by rfl) (by rfl) ?_) | ((with_reducible refine gate_callee (f := 111) rfl ?_); (with_reducible refine gate_dst (N := 13) rfl ?_); refine goesL_ (some 13) rfl rfl Try.func111 (by kernel_rfl) rfl #[.slice (some ⟨gs, 0, none⟩) n c, .func (.func 112) #[] #[.pointer (some ⟨g3, 0, none⟩)]] rfl (by (try simp only [List.map_toArray, List.map_cons, List.map_nil]); first | done | rfl) ?_; (with_reducible refine (ridx w0 _ ((gr, .cells #[.int .i64 room, .int .i64 drops, .int .i64 nxt, .slice (some ⟨gs, 0, none⟩) n c] 133 (0, 0)) :: L) X g3 x (some ⟨gs, 0, none⟩) n c R HS.out _ HF.out (Own.swap4r (S := [(g3, .cells #[.int .i64 x] 3 (0, 0))]) (B := [(gr, .cells #[.int .i64 room, .int .i64 drops, .int .i64 nxt, .slice (some ⟨gs, 0, none⟩) n c] 133 (0, 0))]) HO.out)).mono ?_); rintro e wx ⟨rfl, hO_⟩; refine ⟨_, rfl, ?_⟩; have hO_ := Own.swap4r (S := [(g3, .cells #[.int .i64 x] 3 (0, 0))]) (B := X) (R := [(gr, .cells #[.int .i64 room, .int .i64 drops, .int .i64 nxt, .slice (some ⟨gs, 0, none⟩) n c] 133 (0, 0))]) hO_; clear HO; have HO := Aside0.mk hO_; clear hO_) | ((with_reducible refine gate_dst (N := 19) rfl ?_); refine own_load HO.out rfl (x := .tmp 18) (v := .slice (some ⟨gs, 0, none⟩) n c) rfl (by rfl) (by (repeat (first | exact .head | apply Ext.tail))) hurs (by rfl) (by rfl) ?_))
  go_ret
  exact ⟨by simp, HO.out.drop⟩
theorem RowOf.setAt {e : TypeId} {size : Nat} {RR : Hl} {A : Option Addr} {n c : Nat} {xs : List Value} (h : RowOf e size RR (.slice A n c) n xs) (hn : 0 < n) :
    ∃ gs cur, A = some ⟨gs, 0, none⟩ ∧ RR = [(gs, .cells cur e (0, 0))] ∧ n * size ≤ cur.size ∧ cur.size = c * size ∧ n ≤ c ∧ cur.toList.take (n * size) = xs ∧ c ≤ maxLen ∧ ∀ (cur' : Array Value) (xs' : List Value), cur'.size = cur.size → cur'.toList.take (n * size) = xs' → RowOf e size [(gs, .cells cur' e (0, 0))] (.slice (some ⟨gs, 0, none⟩) n c) n xs' := by
  obtain ⟨hl, ⟨hv, h0, _⟩ | ⟨g, cap, cur, hv, rfl, hnc, hcm, hcs, htk⟩⟩ := h
  · omega
  · simp only [Value.slice.injEq] at hv
    obtain ⟨rfl, _, rfl⟩ := hv
    refine ⟨g, cur, rfl, rfl, by rw [hcs]; exact Nat.mul_le_mul_right _ hnc, hcs, hnc, htk, hcm, fun cur' xs' h1 h2 => ⟨?_, .inr ⟨g, c, cur', rfl, rfl, hnc, hcm, h1.trans hcs, h2⟩⟩⟩
    rw [← h2, List.length_take, Array.length_toList, h1, hcs]
    exact Nat.min_eq_left (Nat.mul_le_mul_right _ hnc)
theorem take_set {cur : Array Value} {m j : Nat} {v : Value} {xs : List Value} (h : cur.toList.take m = xs) (hj : j < m) : (cur.setIfInBounds j v).toList.take m = xs.set j v := by
  rw [← h, Array.toList_setIfInBounds, List.take_set]
/-- A record's place and its bytes, in the open. -/
structure ROpen (X : Hl) (A : Option Addr) (n c : Nat) (R : List Rc) (i : Nat) (r : Rc) (gs gb cb : Nat) (cr cur : Array Value) : Prop where
  ex : ∃ T1 T2 V, X = (gs, .cells cr 135 (0, 0)) :: (T1 ++ ((gb, .cells cur 5 (0, 0)) :: T2)) ∧ V[i]? = some (.slice (some ⟨gb, 0, none⟩) r.b.length cb) ∧ cr.toList.take (n * 4) = rcells R V ∧
    (∀ B' v' r', RowOf 5 1 B' v' r'.b.length (r'.b.map (Value.int .u8)) → BSt (T1 ++ (B' ++ T2)) (V.set i v') (R.set i r')) ∧ V.length = R.length
  hA : A = some ⟨gs, 0, none⟩
  hR : R[i]? = some r
  hb : 1 ≤ r.b.length
  hi : i < n
  hcr : cr.size = c * 4
  hnc : n ≤ c
  hcm : c ≤ maxLen
  hcb : r.b.length ≤ cb
  hcbm : cb ≤ maxLen
  hcur : cur.size = cb
  htk : cur.toList.take r.b.length = r.b.map (Value.int .u8)
  len : R.length = n
  le : n ≤ 64
  bs : ∀ r ∈ R, r.b.length ≤ 32
theorem RSt.open {X : Hl} {A : Option Addr} {n c : Nat} {R : List Rc} (h : RSt X A n c R) {i : Nat} {r : Rc} (hi : R[i]? = some r) (hb : 1 ≤ r.b.length) : ∃ gs gb cb cr cur, ROpen X A n c R i r gs gb cb cr cur := by
  obtain ⟨RR, T, V, rfl, hR, hB⟩ := h.ex
  have hil : i < R.length := by
    rcases Nat.lt_or_ge i R.length with h' | h'
    · exact h'
    · rw [List.getElem?_eq_none h'] at hi; cases hi
  obtain ⟨T1, B, T2, v, rfl, hv, hrow, hput⟩ := hB.at i r hi
  obtain ⟨Ab, cb, rfl⟩ := RowOf.shape hrow
  obtain ⟨gs, cr, rfl, rfl, _, h2, h3, h4, h5, _⟩ := RowOf.setAt hR (by have := h.len; omega)
  obtain ⟨gb, cur, rfl, rfl, _, k2, k3, k4, k5, _⟩ := RowOf.setAt hrow hb
  refine ⟨gs, gb, cb, cr, cur, ⟨T1, T2, V, rfl, hv, h4, hput, hB.len⟩, rfl, hi, hb, by have := h.len; omega, h2, h3, h5, k3, k5, by omega, by rw [Nat.mul_one] at k4; exact k4, h.len, h.le, h.bs⟩
theorem ROpen.row {X : Hl} {A : Option Addr} {n c : Nat} {R : List Rc} {i : Nat} {r : Rc} {gs gb cb : Nat} {cr cur : Array Value} (h : ROpen X A n c R i r gs gb cb cr cur) : RowOf 5 1 [(gb, .cells cur 5 (0, 0))] (.slice (some ⟨gb, 0, none⟩) r.b.length cb) r.b.length (r.b.map (Value.int .u8)) :=
  ⟨by simp, .inr ⟨gb, cb, cur, rfl, rfl, h.hcb, h.hcbm, by rw [h.hcur, Nat.mul_one], by rw [Nat.mul_one]; exact h.htk⟩⟩
theorem ROpen.st {X : Hl} {A : Option Addr} {n c : Nat} {R : List Rc} {i : Nat} {r : Rc} {gs gb cb : Nat} {cr cur : Array Value} (h : ROpen X A n c R i r gs gb cb cr cur) : RSt X A n c R := by
  obtain ⟨T1, T2, V, rfl, hv, h4, hput, hvl⟩ := h.ex
  have hset : V.set i (.slice (some ⟨gb, 0, none⟩) r.b.length cb) = V := by
    apply List.ext_getElem?
    intro j
    rw [List.getElem?_set]
    split
    · rename_i e; subst e; split
      · exact hv.symm
      · rename_i hlt; rw [List.getElem?_eq_none (by omega)]
    · rfl
  have hsr : R.set i r = R := by
    apply List.ext_getElem?
    intro j
    rw [List.getElem?_set]
    split
    · rename_i e; subst e; split
      · exact h.hR.symm
      · rename_i hlt; rw [List.getElem?_eq_none (by omega)]
    · rfl
  have hB := hput _ _ r h.row
  rw [hset, hsr] at hB
  refine ⟨⟨[(gs, .cells cr 135 (0, 0))], _, V, rfl, ⟨?_, .inr ⟨gs, c, cr, by rw [h.hA], rfl, h.hnc, h.hcm, h.hcr, h4⟩⟩, hB⟩, h.len, h.le, h.bs⟩
  rw [rcells_len R V hvl, h.len]
theorem ROpen.cells {X : Hl} {A : Option Addr} {n c : Nat} {R : List Rc} {i : Nat} {r : Rc} {gs gb cb : Nat} {cr cur : Array Value} (h : ROpen X A n c R i r gs gb cb cr cur) {w0 W : World} {L : Hl} (HO : Own w0 W (X ++ L)) : W.cell? ⟨gs, i * 4 + 3, none⟩ = some (.slice (some ⟨gb, 0, none⟩) r.b.length cb) := by
  obtain ⟨T1, T2, V, rfl, hv, h4, hput, hvl⟩ := h.ex
  have h1 := rcells_at R V i r _ h.hR hv
  have h2 := HO.range (o := 0) (vs := rcells R V) (.head) (by rw [List.drop_zero, rcells_len R V hvl, h.len]; exact h4) (i * 4 + 3) _ h1.2.2.2
  simpa using h2
/-- Its bytes are written over. -/
theorem ROpen.write {X : Hl} {A : Option Addr} {n c : Nat} {R : List Rc} {i : Nat} {r : Rc} {gs gb cb : Nat} {cr cur : Array Value} (h : ROpen X A n c R i r gs gb cb cr cur) : ∃ X1 X2, X = X1 ++ ((gb, .cells cur 5 (0, 0)) :: X2) ∧
    ∀ (cur' : Array Value) (b' : List Int), cur'.size = cur.size → b'.length = r.b.length → cur'.toList.take r.b.length = b'.map (Value.int .u8) → ROpen (X1 ++ ((gb, .cells cur' 5 (0, 0)) :: X2)) A n c (R.set i { r with b := b' }) i { r with b := b' } gs gb cb cr cur' := by
  obtain ⟨T1, T2, V, rfl, hv, h4, hput, hvl⟩ := h.ex
  refine ⟨(gs, .cells cr 135 (0, 0)) :: T1, T2, rfl, fun cur' b' h1 h2 h3 => ⟨⟨T1, T2, V, rfl, by rw [hv]; simp only [h2], by rw [rcells_b R V i r b' h.hR]; exact h4, fun B' v' r' hr' => ?_, by rw [List.length_set]; exact hvl⟩, h.hA, ?_, by simp only [h2]; exact h.hb, h.hi, h.hcr, h.hnc, h.hcm, by simp only [h2]; exact h.hcb, h.hcbm, by rw [h1, h.hcur], by simp only [h2]; exact h3, by rw [List.length_set]; exact h.len, h.le, ?_⟩⟩
  · rw [List.set_set]
    exact hput B' v' r' hr'
  · rw [List.getElem?_set_self (by rw [h.len]; exact h.hi)]
  · intro q hq
    rcases List.mem_or_eq_of_mem_set hq with hq | rfl
    · exact h.bs q hq
    · show b'.length ≤ 32
      rw [h2]
      exact h.bs r (List.mem_of_getElem? h.hR)
theorem ROpen.c3 {R : List Rc} {V : List Value} {cr : Array Value} {n i : Nat} {r : Rc} {v : Value} (h4 : cr.toList.take (n * 4) = rcells R V) (hR : R[i]? = some r) (hv : V[i]? = some v) : cr[i * 4 + 3]? = some v := by
  have h1 := (rcells_at R V i r _ hR hv).2.2.2
  rw [← h4, List.getElem?_take] at h1
  split at h1
  · rw [← Array.getElem?_toList]; exact h1
  · cases h1
section
variable {P : Program} {ops : Array Oper} {rest : List Oper} {o : Oper} {a : Act} {W : World}
theorem exec_slhm {t e : TypeId} {x hi mx : Operand} {gb m cb : Nat} (ho : o.op = .slice t x none (some hi) (some mx)) (ht : P.underlying t = some (.slice e)) (hi' : (P.info? e).map (·.size) = some 1)
    (hx : a.eval x = .slice (some ⟨gb, 0, none⟩) m cb) (h1 : a.eval hi = .int .i64 (m : Int)) (h2 : a.eval mx = .int .i64 (m : Int)) (hm : 1 ≤ m) (hc : m ≤ cb) : (execOp a.eval o).run P W = .ok (.value (.slice (some ⟨gb, 0, none⟩) m m)) W := by
  have hel : P.elem t = e := by unfold Program.elem; rw [ht]
  have ht' : P.underlying t = some (.slice (P.elem t)) := by rw [hel]; exact ht
  obtain ⟨ti, ht1, ht2⟩ : ∃ ti, P.info? e = some ti ∧ ti.size = 1 := by
    cases hq : P.info? e with
    | none => rw [hq] at hi'; simp at hi'
    | some ti => exact ⟨ti, rfl, by rw [hq] at hi'; simpa using hi'⟩
  have hs : (sizeOf e).run P W = .ok 1 W := by
    have := run_sizeOf W ht1
    rw [this]
    simp [Program.cellsOf, ht1, ht2]
  have hb : (Instr.sliceBounds true m cb none (some (.int .i64 (m : Int))) (some (.int .i64 (m : Int)))).run P W = .ok (0, m, m) W := by
    simp [Instr.sliceBounds, run_sliceBound, *, (by omega : 0 ≤ (m : Int))]
  have hrun : (Instr.sliceAt t (.slice (some ⟨gb, 0, none⟩) m cb) none (some (.int .i64 (m : Int))) (some (.int .i64 (m : Int)))).run P W = .ok (.slice (some ⟨gb, 0, none⟩) m m) W := by
    rw [run_sliceAt_slice W t _ _ _ _ ht', run_slice_any W t _ m cb ht', hb, hel]
    simp only [Result.andThen, hs, sliced]
    rw [if_neg (by omega)]
    simp [Addr.add]
  unfold execOp
  rw [ho]
  simp only [hx, Option.map_some, Option.map_none, h1, h2, hrun, Sem.run_bind, Result.andThen]
  rfl
end
theorem _root_.Go.Proofs.Hp.Own.cloned {w0 W : World} {b g s : Nat × Obj} {R' T1 T2 L : Hl} (h : Own w0 W (R' ++ (b :: (g :: s :: (T1 ++ (T2 ++ L)))))) : Own w0 W (g :: s :: (T1 ++ (R' ++ (T2 ++ (b :: L))))) := by
  have h1 : Own w0 W ([b] ++ (R' ++ ((g :: s :: T1) ++ (T2 ++ L)))) := by have := Own.swap3 (B := R') (R := [b]) (L := g :: s :: (T1 ++ (T2 ++ L))) h; simpa using this
  have h2 : Own w0 W ([b] ++ (((g :: s :: T1) ++ (R' ++ T2)) ++ L)) := by have := Own.swap4r h1; simpa using this
  have h3 := Own.swap3 h2
  simpa using h3
set_option maxHeartbeats 8000000 in
set_option maxRecDepth 100000 in
theorem record_no (w0 w : World) (L X : Hl) (gr : Nat) (room drops nxt : Int) (A : Option Addr) (n c : Nat) (R : List Rc) (hS : RSt X A n c R) (x : Int) (hf : rfind x R 0 = -1) (hO : Own w0 w ((gr, .cells #[.int .i64 room, .int .i64 drops, .int .i64 nxt, .slice A n c] 133 (0, 0)) :: (X ++ L))) : Calls Try.prog 30 #[.pointer (some ⟨gr, 0, none⟩), .int .i64 x] w fun e w' => e = .returned (.tuple #[.slice none 0 0, .bool false]) ∧ Own w0 w' ((gr, .cells #[.int .i64 room, .int .i64 drops, .int .i64 nxt, .slice A n c] 133 (0, 0)) :: (X ++ L)) := by
  have HF := Aside0.mk hf
  clear hf
  have hui := Try.underlying3
  have hul := Try.underlying32
  have hu8 := Try.underlying5
  have hur := Try.underlying135
  have hurs := Try.underlying131
  have HO : Aside0 (Own w0 w ((gr, .cells #[.int .i64 room, .int .i64 drops, .int .i64 nxt, .slice A n c] 133 (0, 0)) :: (X ++ L))) := ⟨hO⟩
  have HS := Aside0.mk hS
  clear hO hS
  go_enter Try.func30, Try.ntmps30
  go_wp2_with (first | ((with_reducible refine gate_callee (f := 78) rfl ?_); (with_reducible refine gate_dst (N := 9) rfl ?_); refine goesL_ (some 9) rfl rfl Try.func78 (by kernel_rfl) rfl #[.pointer (some ⟨gr, 0, none⟩), .int .i64 x] rfl (by (try simp only [List.map_toArray, List.map_cons, List.map_nil]); first | done | rfl) ?_; (with_reducible refine (rfind_no w0 _ L X gr room drops nxt A n c R HS.out x HF.out HO.out).mono ?_); rintro e wx ⟨rfl, hO_⟩; refine ⟨_, rfl, ?_⟩; clear HO; have HO := Aside0.mk hO_; clear hO_))
  refine bodyPost_ret (results_tmp2 rfl _ _ _) rfl ?_
  exact ⟨rfl, HO.out⟩
set_option maxHeartbeats 8000000 in
set_option maxRecDepth 100000 in
theorem record_has (w0 w : World) (L X : Hl) (gr : Nat) (room drops nxt : Int) (A : Option Addr) (n c : Nat) (R : List Rc) (i : Nat) (r : Rc) (gs gb cb : Nat) (cr cur : Array Value) (hP : ROpen X A n c R i r gs gb cb cr cur) (x : Int) (hf : rfind x R 0 = (i : Int)) (hO : Own w0 w ((gr, .cells #[.int .i64 room, .int .i64 drops, .int .i64 nxt, .slice A n c] 133 (0, 0)) :: (X ++ L))) : Calls Try.prog 30 #[.pointer (some ⟨gr, 0, none⟩), .int .i64 x] w fun e w' => e = .returned (.tuple #[.slice (some ⟨gb, 0, none⟩) r.b.length r.b.length, .bool true]) ∧ Own w0 w' ((gr, .cells #[.int .i64 room, .int .i64 drops, .int .i64 nxt, .slice A n c] 133 (0, 0)) :: (X ++ L)) := by
  have hui := Try.underlying3
  have hul := Try.underlying32
  have hu8 := Try.underlying5
  have hur := Try.underlying135
  have hurs := Try.underlying131
  have HP := Aside0.mk hP
  obtain ⟨T1, T2, V, rfl, hv, h4, hput, hvl⟩ := hP.ex
  have HC3 : Aside0 (cr[i * 4 + 3]? = some (.slice (some ⟨gb, 0, none⟩) r.b.length cb)) := ⟨ROpen.c3 h4 hP.hR hv⟩
  have HO : Aside0 (Own w0 w ((gr, .cells #[.int .i64 room, .int .i64 drops, .int .i64 nxt, .slice A n c] 133 (0, 0)) :: (((gs, .cells cr 135 (0, 0)) :: (T1 ++ ((gb, .cells cur 5 (0, 0)) :: T2))) ++ L))) := ⟨hO⟩
  have HF := Aside0.mk hf
  clear hO hP hv h4 hput hvl hf
  go_enter Try.func30, Try.ntmps30
  go_wp2_with (first | ((with_reducible refine gate_callee (f := 78) rfl ?_); (with_reducible refine gate_dst (N := 9) rfl ?_); refine goesL_ (some 9) rfl rfl Try.func78 (by kernel_rfl) rfl #[.pointer (some ⟨gr, 0, none⟩), .int .i64 x] rfl (by (try simp only [List.map_toArray, List.map_cons, List.map_nil]); first | done | rfl) ?_; (with_reducible refine (rfind_has w0 _ L ((gs, .cells cr 135 (0, 0)) :: (T1 ++ ((gb, .cells cur 5 (0, 0)) :: T2))) gr room drops nxt A n c R HP.out.st x i gs HP.out.hA HF.out HO.out).mono ?_); rintro e wx ⟨rfl, hO_⟩; refine ⟨_, rfl, ?_⟩; clear HO; have HO := Aside0.mk hO_; clear hO_))
  refine start_ (n := 17) (S := fun W => Own w0 W ((gs, .cells cr 135 (0, 0)) :: [])) (ds := []) #[false, false, false, false, false, false, false, false, false, false, false, false, false, false, false, false, false] (by kernel_rfl) rfl rfl (Own.drew (HO.out.picks (.cons (by (repeat (first | exact .head | apply Ext.tail))) (.nil)))) (fun hHeld => ?_)
  have HO_ := Aside0.mk HO.out.drew
  clear HO
  have HO := HO_
  clear HO_
  generalize World.drew _ = wr at HO hHeld ⊢
  refine Hp.pu_ 0 12 (Hp.up 17 1) ?_
  refine Hp.pu_ 1 13 (Hp.up 17 2) ?_
  refine Hp.pu_ 2 14 (Hp.up 17 3) ?_
  refine take_ (i := 3) (N := some 15) (v := .slice (some ⟨gb, 0, none⟩) r.b.length cb) (a' := ?_) (Hp.up 17 4) rfl rfl (by kernel_rfl) (fun _ _ _ h => h) (own_yield1 (by rfl) (x := .tmp 14) rfl (by rfl) (.head) hul (by rfl) HC3.out) hHeld ?_ ?_
  rotate_left
  · simp only [Act.put, List.setIfInBounds_toArray, List.set_cons_zero, List.set_cons_succ, i64_w, i32_w]
    rfl
  refine Hp.pu_ 4 16 (Hp.up 17 5) ?_
  refine Hp.pu_ 5 17 (Hp.up 17 6) ?_
  refine Hp.pu_ 6 18 (Hp.up 17 7) ?_
  refine take_ (i := 7) (N := some 19) (v := .slice (some ⟨gb, 0, none⟩) r.b.length cb) (a' := ?_) (Hp.up 17 8) rfl rfl (by kernel_rfl) (fun _ _ _ h => h) (own_yield1 (by rfl) (x := .tmp 18) rfl (by rfl) (.head) hul (by rfl) HC3.out) hHeld ?_ ?_
  rotate_left
  · simp only [Act.put, List.setIfInBounds_toArray, List.set_cons_zero, List.set_cons_succ, i64_w, i32_w]
    rfl
  refine Hp.pu_ 8 20 (Hp.up 17 9) ?_
  refine Hp.pu_ 9 21 (Hp.up 17 10) ?_
  refine Hp.pu_ 10 22 (Hp.up 17 11) ?_
  refine Hp.pu_ 11 23 (Hp.up 17 12) ?_
  refine take_ (i := 12) (N := some 24) (v := .slice (some ⟨gb, 0, none⟩) r.b.length cb) (a' := ?_) (Hp.up 17 13) rfl rfl (by kernel_rfl) (fun _ _ _ h => h) (own_yield1 (by rfl) (x := .tmp 23) rfl (by rfl) (.head) hul (by rfl) HC3.out) hHeld ?_ ?_
  rotate_left
  · simp only [Act.put, List.setIfInBounds_toArray, List.set_cons_zero, List.set_cons_succ, i64_w, i32_w]
    rfl
  refine Hp.pu_ 13 25 (Hp.up 17 14) ?_
  refine pure_ (i := 14) (N := some 26) (v := .slice (some ⟨gb, 0, none⟩) r.b.length r.b.length) (a' := ?_) (Hp.up 17 15) rfl rfl (by kernel_rfl) (fun _ _ _ h => h) (Or.inl ⟨by rfl, fun w' => exec_slhm rfl hul (by kernel_rfl) (by rfl) (by rfl) (by rfl) HP.out.hb HP.out.hcb⟩) ?_ ?_
  rotate_left
  · simp only [Act.put, List.setIfInBounds_toArray, List.set_cons_zero, List.set_cons_succ, i64_w, i32_w]
    rfl
  refine Hp.pu_ 15 4 (Hp.up 17 16) ?_
  refine Hp.pu_ 16 5 (Hp.up 17 17) ?_
  refine done_ (by kernel_rfl) ?_
  clear hHeld
  go_wp2
  refine bodyPost_ret (results_tmp2 rfl _ _ _) rfl ?_
  exact ⟨rfl, HO.out⟩
set_option maxHeartbeats 8000000 in
set_option maxRecDepth 100000 in
theorem end_no (w0 w : World) (L X : Hl) (gr : Nat) (room drops nxt : Int) (A : Option Addr) (n c : Nat) (R : List Rc) (hS : RSt X A n c R) (x s : Int) (hf : rfind x R 0 = -1) (hO : Own w0 w ((gr, .cells #[.int .i64 room, .int .i64 drops, .int .i64 nxt, .slice A n c] 133 (0, 0)) :: (X ++ L))) : Calls Try.prog 76 #[.pointer (some ⟨gr, 0, none⟩), .int .i64 x, .int .i64 s] w fun e w' => e = .returned (.bool false) ∧ Own w0 w' ((gr, .cells #[.int .i64 room, .int .i64 drops, .int .i64 nxt, .slice A n c] 133 (0, 0)) :: (X ++ L)) := by
  have HF := Aside0.mk hf
  clear hf
  have hui := Try.underlying3
  have hul := Try.underlying32
  have hu8 := Try.underlying5
  have hur := Try.underlying135
  have hurs := Try.underlying131
  have HO : Aside0 (Own w0 w ((gr, .cells #[.int .i64 room, .int .i64 drops, .int .i64 nxt, .slice A n c] 133 (0, 0)) :: (X ++ L))) := ⟨hO⟩
  have HS := Aside0.mk hS
  clear hO hS
  go_enter Try.func76, Try.ntmps76
  go_wp2_with (first | ((with_reducible refine gate_callee (f := 78) rfl ?_); (with_reducible refine gate_dst (N := 10) rfl ?_); refine goesL_ (some 10) rfl rfl Try.func78 (by kernel_rfl) rfl #[.pointer (some ⟨gr, 0, none⟩), .int .i64 x] rfl (by (try simp only [List.map_toArray, List.map_cons, List.map_nil]); first | done | rfl) ?_; (with_reducible refine (rfind_no w0 _ L X gr room drops nxt A n c R HS.out x HF.out HO.out).mono ?_); rintro e wx ⟨rfl, hO_⟩; refine ⟨_, rfl, ?_⟩; clear HO; have HO := Aside0.mk hO_; clear hO_))
  go_ret
  exact ⟨rfl, HO.out⟩
set_option maxHeartbeats 8000000 in
set_option maxRecDepth 100000 in
theorem end_has (w0 w : World) (L X : Hl) (gr : Nat) (room drops nxt : Int) (A : Option Addr) (n c : Nat) (R : List Rc) (i : Nat) (r : Rc) (gs gb cb : Nat) (cr cur : Array Value) (hP : ROpen X A n c R i r gs gb cb cr cur) (x : Int) (hf : rfind x R 0 = (i : Int)) (s : Int) (hO : Own w0 w ((gr, .cells #[.int .i64 room, .int .i64 drops, .int .i64 nxt, .slice A n c] 133 (0, 0)) :: (X ++ L))) : Calls Try.prog 76 #[.pointer (some ⟨gr, 0, none⟩), .int .i64 x, .int .i64 s] w fun e w' => e = .returned (.bool true) ∧ ∃ X', RSt X' A n c (R.set i { r with st := s }) ∧ Own w0 w' ((gr, .cells #[.int .i64 room, .int .i64 drops, .int .i64 nxt, .slice A n c] 133 (0, 0)) :: (X' ++ ((gb, .cells cur 5 (0, 0)) :: L))) := by
  have hui := Try.underlying3
  have hul := Try.underlying32
  have hu8 := Try.underlying5
  have hur := Try.underlying135
  have hurs := Try.underlying131
  have HP := Aside0.mk hP
  obtain ⟨T1, T2, V, rfl, hv, h4, hput, hvl⟩ := hP.ex
  have HC3 : Aside0 (cr[i * 4 + 3]? = some (.slice (some ⟨gb, 0, none⟩) r.b.length cb)) := ⟨ROpen.c3 h4 hP.hR hv⟩
  have HO : Aside0 (Own w0 w ((gr, .cells #[.int .i64 room, .int .i64 drops, .int .i64 nxt, .slice A n c] 133 (0, 0)) :: (((gs, .cells cr 135 (0, 0)) :: (T1 ++ ((gb, .cells cur 5 (0, 0)) :: T2))) ++ L))) := ⟨hO⟩
  have HF := Aside0.mk hf
  have HV := Aside0.mk hv
  have H4 := Aside0.mk h4
  have HPUT := Aside0.mk hput
  have HVL := Aside0.mk hvl
  have HJ : Aside0 (i * 4 + 2 < cr.size ∧ i * 4 + 3 < cr.size) := ⟨by have := hP.hi; have := hP.hnc; rw [hP.hcr]; omega⟩
  have HE : Aside0 (Ext ((gr, .cells #[.int .i64 room, .int .i64 drops, .int .i64 nxt, .slice A n c] 133 (0, 0)) :: (gs, .cells cr 135 (0, 0)) :: (T1 ++ ((gb, .cells cur 5 (0, 0)) :: (T2 ++ L)))) gb (.cells cur 5 (0, 0)) ((gr, .cells #[.int .i64 room, .int .i64 drops, .int .i64 nxt, .slice A n c] 133 (0, 0)) :: (gs, .cells cr 135 (0, 0)) :: (T1 ++ (T2 ++ L)))) := ⟨.tail (.tail (Ext.app .head T1))⟩
  clear hO hP hv h4 hput hvl hf
  go_enter Try.func76, Try.ntmps76
  go_wp2_with (first | ((with_reducible refine gate_callee (f := 78) rfl ?_); (with_reducible refine gate_dst (N := 10) rfl ?_); refine goesL_ (some 10) rfl rfl Try.func78 (by kernel_rfl) rfl #[.pointer (some ⟨gr, 0, none⟩), .int .i64 x] rfl (by (try simp only [List.map_toArray, List.map_cons, List.map_nil]); first | done | rfl) ?_; (with_reducible refine (rfind_has w0 _ L ((gs, .cells cr 135 (0, 0)) :: (T1 ++ ((gb, .cells cur 5 (0, 0)) :: T2))) gr room drops nxt A n c R HP.out.st x i gs HP.out.hA HF.out HO.out).mono ?_); rintro e wx ⟨rfl, hO_⟩; refine ⟨_, rfl, ?_⟩; have hO_ : Own w0 _ ((gr, .cells #[.int .i64 room, .int .i64 drops, .int .i64 nxt, .slice A n c] 133 (0, 0)) :: (gs, .cells cr 135 (0, 0)) :: (T1 ++ ((gb, .cells cur 5 (0, 0)) :: (T2 ++ L)))) := (by simpa using hO_); clear HO; have HO := Aside0.mk hO_; clear hO_) | ((with_reducible refine gate_dst (N := 18) rfl ?_); refine own_load HO.out rfl (x := .tmp 17) (v := .slice (some ⟨gb, 0, none⟩) r.b.length cb) rfl (by rfl) (.tail .head) hul (by rfl) HC3.out ?_) | ((with_reducible refine gate_callee (f := 75) rfl ?_); (with_reducible refine gate_dst (N := 19) rfl ?_); refine goesL_ (some 19) rfl rfl Try.func75 (by kernel_rfl) rfl #[.slice (some ⟨gb, 0, none⟩) r.b.length cb] rfl (by (try simp only [List.map_toArray, List.map_cons, List.map_nil]); first | done | rfl) ?_; (with_reducible refine (clone_u8 w0 _ ((gr, .cells #[.int .i64 room, .int .i64 drops, .int .i64 nxt, .slice A n c] 133 (0, 0)) :: (gs, .cells cr 135 (0, 0)) :: (T1 ++ (T2 ++ L))) [(gb, .cells cur 5 (0, 0))] _ _ _ HP.out.row (u8s_one _) (by have := HP.out.bs _ (List.mem_of_getElem? HP.out.hR); omega) (HO.out.ext HE.out)).mono ?_); rintro e wx ⟨v2, rfl, R2, hR2, hO_⟩; refine ⟨_, rfl, ?_⟩; have HR2 := Aside0.mk hR2; obtain ⟨A2, c2, rfl⟩ := RowOf.shape hR2; clear hR2; have hO_ := hO_.cloned; clear HO; have HO := Aside0.mk hO_; clear hO_) | ((with_reducible refine gate_store (p := 22) rfl ?_); refine own_store HO.out rfl (ty := 32) (x := .tmp 22) (y := .tmp 19) (v := .slice A2 r.b.length c2) (cs' := cr.setIfInBounds (i * 4 + 3) (.slice A2 r.b.length c2)) rfl (by rfl) (by rfl) (.tail .head) (by kernel_rfl) (by rfl) HJ.out.2 rfl ?_; intro wc hO_; clear HO; have HO := Aside0.mk hO_; clear hO_) | ((with_reducible refine gate_store (p := 24) rfl ?_); refine own_store HO.out rfl (ty := 3) (x := .tmp 24) (y := .tmp 20) (v := .int .i64 s) (cs' := (cr.setIfInBounds (i * 4 + 3) (.slice A2 r.b.length c2)).setIfInBounds (i * 4 + 2) (.int .i64 s)) rfl (by rfl) (by rfl) .head (by kernel_rfl) (by rfl) (by rw [Array.size_setIfInBounds]; exact HJ.out.1) rfl ?_; intro wc hO_; clear HO; have HO := Aside0.mk hO_; clear hO_))
  go_ret
  refine ⟨rfl, _, ⟨⟨[(gs, .cells ((cr.setIfInBounds (i * 4 + 3) (.slice A2 r.b.length c2)).setIfInBounds (i * 4 + 2) (.int .i64 s)) 135 (0, 0))], T1 ++ (R2 ++ T2), V.set i (.slice A2 r.b.length c2), rfl, ⟨?_, .inr ⟨gs, c, _, by rw [HP.out.hA], rfl, HP.out.hnc, HP.out.hcm, ?_, ?_⟩⟩, HPUT.out _ _ _ HR2.out⟩, ?_, HP.out.le, ?_⟩, ?_⟩
  · rw [rcells_len _ _ (by rw [List.length_set, List.length_set]; exact HVL.out), List.length_set, HP.out.len]
  · rw [Array.size_setIfInBounds, Array.size_setIfInBounds]; exact HP.out.hcr
  · have h1 := take_set (v := .slice A2 r.b.length c2) H4.out (j := i * 4 + 3) (by have := HP.out.hi; omega)
    rw [rcells_set3] at h1
    have h2 := take_set (v := .int .i64 s) h1 (j := i * 4 + 2) (by have := HP.out.hi; omega)
    rw [rcells_set2 _ _ _ _ _ HP.out.hR] at h2
    exact h2
  · rw [List.length_set]; exact HP.out.len
  · intro q hq
    rcases List.mem_or_eq_of_mem_set hq with hq | rfl
    · exact HP.out.bs q hq
    · exact HP.out.bs r (List.mem_of_getElem? HP.out.hR)
  · have := HO.out.twof
    simpa using this
set_option maxHeartbeats 8000000 in
set_option maxRecDepth 100000 in
theorem commit_no (w0 w : World) (L X : Hl) (gr : Nat) (room drops nxt : Int) (A : Option Addr) (n c : Nat) (R : List Rc) (hS : RSt X A n c R) (x : Int) (hf : rfind x R 0 = -1) (hO : Own w0 w ((gr, .cells #[.int .i64 room, .int .i64 drops, .int .i64 nxt, .slice A n c] 133 (0, 0)) :: (X ++ L))) : Calls Try.prog 31 #[.pointer (some ⟨gr, 0, none⟩), .int .i64 x] w fun e w' => e = .returned (.bool false) ∧ Own w0 w' ((gr, .cells #[.int .i64 room, .int .i64 drops, .int .i64 nxt, .slice A n c] 133 (0, 0)) :: (X ++ L)) := by
  have HF := Aside0.mk hf
  clear hf
  have hui := Try.underlying3
  have hul := Try.underlying32
  have hu8 := Try.underlying5
  have hur := Try.underlying135
  have hurs := Try.underlying131
  have HO : Aside0 (Own w0 w ((gr, .cells #[.int .i64 room, .int .i64 drops, .int .i64 nxt, .slice A n c] 133 (0, 0)) :: (X ++ L))) := ⟨hO⟩
  have HS := Aside0.mk hS
  clear hO hS
  go_enter Try.func31, Try.ntmps31
  go_wp2_with (first | ((with_reducible refine gate_callee (f := 76) rfl ?_); (with_reducible refine gate_dst (N := 7) rfl ?_); refine goesL_ (some 7) rfl rfl Try.func76 (by kernel_rfl) rfl #[.pointer (some ⟨gr, 0, none⟩), .int .i64 x, .int .i64 1] rfl (by (try simp only [List.map_toArray, List.map_cons, List.map_nil]); first | done | rfl) ?_; (with_reducible refine (end_no w0 _ L X gr room drops nxt A n c R HS.out x 1 HF.out HO.out).mono ?_); rintro e wx ⟨rfl, hO_⟩; refine ⟨_, rfl, ?_⟩; clear HO; have HO := Aside0.mk hO_; clear hO_))
  go_ret
  exact ⟨rfl, HO.out⟩
set_option maxHeartbeats 8000000 in
set_option maxRecDepth 100000 in
theorem commit_has (w0 w : World) (L X : Hl) (gr : Nat) (room drops nxt : Int) (A : Option Addr) (n c : Nat) (R : List Rc) (i : Nat) (r : Rc) (gs gb cb : Nat) (cr cur : Array Value) (hP : ROpen X A n c R i r gs gb cb cr cur) (x : Int) (hf : rfind x R 0 = (i : Int)) (hO : Own w0 w ((gr, .cells #[.int .i64 room, .int .i64 drops, .int .i64 nxt, .slice A n c] 133 (0, 0)) :: (X ++ L))) : Calls Try.prog 31 #[.pointer (some ⟨gr, 0, none⟩), .int .i64 x] w fun e w' => e = .returned (.bool true) ∧ ∃ X', RSt X' A n c (R.set i { r with st := 1 }) ∧ Own w0 w' ((gr, .cells #[.int .i64 room, .int .i64 drops, .int .i64 nxt, .slice A n c] 133 (0, 0)) :: (X' ++ ((gb, .cells cur 5 (0, 0)) :: L))) := by
  have HP := Aside0.mk hP
  have HF := Aside0.mk hf
  have HO : Aside0 (Own w0 w ((gr, .cells #[.int .i64 room, .int .i64 drops, .int .i64 nxt, .slice A n c] 133 (0, 0)) :: (X ++ L))) := ⟨hO⟩
  clear hP hf hO
  go_enter Try.func31, Try.ntmps31
  go_wp2_with (first | ((with_reducible refine gate_callee (f := 76) rfl ?_); (with_reducible refine gate_dst (N := 7) rfl ?_); refine goesL_ (some 7) rfl rfl Try.func76 (by kernel_rfl) rfl #[.pointer (some ⟨gr, 0, none⟩), .int .i64 x, .int .i64 1] rfl (by (try simp only [List.map_toArray, List.map_cons, List.map_nil]); first | done | rfl) ?_; (with_reducible refine (end_has w0 _ L X gr room drops nxt A n c R i r gs gb cb cr cur HP.out x HF.out 1 HO.out).mono ?_); rintro e wx ⟨rfl, X2, hX2, hO_⟩; refine ⟨_, rfl, ?_⟩; have HX2 := Aside0.mk hX2; clear hX2; clear HO; have HO := Aside0.mk hO_; clear hO_))
  go_ret
  exact ⟨rfl, X2, HX2.out, HO.out⟩
set_option maxHeartbeats 8000000 in
set_option maxRecDepth 100000 in
theorem discard_no (w0 w : World) (L X : Hl) (gr : Nat) (room drops nxt : Int) (A : Option Addr) (n c : Nat) (R : List Rc) (hS : RSt X A n c R) (x : Int) (hf : rfind x R 0 = -1) (hO : Own w0 w ((gr, .cells #[.int .i64 room, .int .i64 drops, .int .i64 nxt, .slice A n c] 133 (0, 0)) :: (X ++ L))) : Calls Try.prog 28 #[.pointer (some ⟨gr, 0, none⟩), .int .i64 x] w fun e w' => e = .returned (.bool false) ∧ Own w0 w' ((gr, .cells #[.int .i64 room, .int .i64 drops, .int .i64 nxt, .slice A n c] 133 (0, 0)) :: (X ++ L)) := by
  have HF := Aside0.mk hf
  clear hf
  have hui := Try.underlying3
  have hul := Try.underlying32
  have hu8 := Try.underlying5
  have hur := Try.underlying135
  have hurs := Try.underlying131
  have HO : Aside0 (Own w0 w ((gr, .cells #[.int .i64 room, .int .i64 drops, .int .i64 nxt, .slice A n c] 133 (0, 0)) :: (X ++ L))) := ⟨hO⟩
  have HS := Aside0.mk hS
  clear hO hS
  go_enter Try.func28, Try.ntmps28
  go_wp2_with (first | ((with_reducible refine gate_callee (f := 76) rfl ?_); (with_reducible refine gate_dst (N := 7) rfl ?_); refine goesL_ (some 7) rfl rfl Try.func76 (by kernel_rfl) rfl #[.pointer (some ⟨gr, 0, none⟩), .int .i64 x, .int .i64 2] rfl (by (try simp only [List.map_toArray, List.map_cons, List.map_nil]); first | done | rfl) ?_; (with_reducible refine (end_no w0 _ L X gr room drops nxt A n c R HS.out x 2 HF.out HO.out).mono ?_); rintro e wx ⟨rfl, hO_⟩; refine ⟨_, rfl, ?_⟩; clear HO; have HO := Aside0.mk hO_; clear hO_))
  go_ret
  exact ⟨rfl, HO.out⟩
set_option maxHeartbeats 8000000 in
set_option maxRecDepth 100000 in
theorem discard_has (w0 w : World) (L X : Hl) (gr : Nat) (room drops nxt : Int) (A : Option Addr) (n c : Nat) (R : List Rc) (i : Nat) (r : Rc) (gs gb cb : Nat) (cr cur : Array Value) (hP : ROpen X A n c R i r gs gb cb cr cur) (x : Int) (hf : rfind x R 0 = (i : Int)) (hO : Own w0 w ((gr, .cells #[.int .i64 room, .int .i64 drops, .int .i64 nxt, .slice A n c] 133 (0, 0)) :: (X ++ L))) : Calls Try.prog 28 #[.pointer (some ⟨gr, 0, none⟩), .int .i64 x] w fun e w' => e = .returned (.bool true) ∧ ∃ X', RSt X' A n c (R.set i { r with st := 2 }) ∧ Own w0 w' ((gr, .cells #[.int .i64 room, .int .i64 drops, .int .i64 nxt, .slice A n c] 133 (0, 0)) :: (X' ++ ((gb, .cells cur 5 (0, 0)) :: L))) := by
  have HP := Aside0.mk hP
  have HF := Aside0.mk hf
  have HO : Aside0 (Own w0 w ((gr, .cells #[.int .i64 room, .int .i64 drops, .int .i64 nxt, .slice A n c] 133 (0, 0)) :: (X ++ L))) := ⟨hO⟩
  clear hP hf hO
  go_enter Try.func28, Try.ntmps28
  go_wp2_with (first | ((with_reducible refine gate_callee (f := 76) rfl ?_); (with_reducible refine gate_dst (N := 7) rfl ?_); refine goesL_ (some 7) rfl rfl Try.func76 (by kernel_rfl) rfl #[.pointer (some ⟨gr, 0, none⟩), .int .i64 x, .int .i64 2] rfl (by (try simp only [List.map_toArray, List.map_cons, List.map_nil]); first | done | rfl) ?_; (with_reducible refine (end_has w0 _ L X gr room drops nxt A n c R i r gs gb cb cr cur HP.out x HF.out 2 HO.out).mono ?_); rintro e wx ⟨rfl, X2, hX2, hO_⟩; refine ⟨_, rfl, ?_⟩; have HX2 := Aside0.mk hX2; clear hX2; clear HO; have HO := Aside0.mk hO_; clear hO_))
  go_ret
  exact ⟨rfl, X2, HX2.out, HO.out⟩
end Go.Proofs.Rg
