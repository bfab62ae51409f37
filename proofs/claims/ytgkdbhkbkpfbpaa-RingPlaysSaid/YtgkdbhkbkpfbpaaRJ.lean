/- Contracts of the document's ring (halberdref13.Ring), over lists of blocks; no conditions beyond each theorem's own. -/
import Derived.Test.YtgkdbhkbkpfbpaaRI
set_option linter.unusedVariables false
set_option linter.unusedSimpArgs false
namespace Go.Proofs.Rg
open Go.RowKit Go.Proofs.Ev Go.Proofs.Hp Go.Proofs.Ar Go.Proofs.YtgkdbhkbkpfbpaaW.PrintWords Go.Proofs.YtgkdbhkbkpfbpaaW.PrintLast Go.Proofs.YtgkdbhkbkpfbpaaW.PrintMore
attribute [local go_sem] max2_int min2_int max_two min_two max_three min_three max_four min_four eql_slice_nil
/-- The document's records: each with its number (that is not kept), and: is it gone? -/
def dcells : List Rc → List Bool → List Value → List Value
  | r :: R, g :: G, v :: V => .int .i64 r.ow :: .int .i64 r.st :: v :: .bool g :: dcells R G V
  | _, _, _ => []
theorem dcells_at : ∀ (R : List Rc) (G : List Bool) (V : List Value) (i : Nat) (r : Rc) (g : Bool) (v : Value), R[i]? = some r → G[i]? = some g → V[i]? = some v →
    (dcells R G V)[i * 4]? = some (.int .i64 r.ow) ∧ (dcells R G V)[i * 4 + 1]? = some (.int .i64 r.st) ∧ (dcells R G V)[i * 4 + 2]? = some v ∧ (dcells R G V)[i * 4 + 3]? = some (.bool g)
  | [], _, _, _, _, _, _, h, _, _ => by simp at h
  | _ :: _, [], _, _, _, _, _, _, h, _ => by simp at h
  | _ :: _, _ :: _, [], _, _, _, _, _, _, h => by simp at h
  | q :: R, a :: G, u :: V, 0, r, g, v, h1, h2, h3 => by
    simp only [List.getElem?_cons_zero, Option.some.injEq] at h1 h2 h3
    subst h1 h2 h3
    exact ⟨rfl, rfl, rfl, rfl⟩
  | q :: R, a :: G, u :: V, i + 1, r, g, v, h1, h2, h3 => by
    have ih := dcells_at R G V i r g v (by simpa using h1) (by simpa using h2) (by simpa using h3)
    have e : (i + 1) * 4 = i * 4 + 1 + 1 + 1 + 1 := by omega
    rw [e]
    simpa [dcells] using ih
structure DSt (X : Hl) (A : Option Addr) (n c : Nat) (R : List Rc) (G : List Bool) : Prop where
  ex : ∃ RR T V, X = RR ++ T ∧ RowOf 78 4 RR (.slice A n c) n (dcells R G V) ∧ BSt T V R
  len : R.length = n
  glen : G.length = n
  le : n ≤ 80
  bs : ∀ r ∈ R, r.b.length ≤ 32
  ids : ∀ (i : Nat) r, R[i]? = some r → r.id = (i : Int)
theorem DSt.nil : DSt [] none 0 0 [] [] := ⟨⟨[], [], [], rfl, RowOf.none _ _, .nil⟩, rfl, rfl, by decide, fun r h => (by cases h), fun i r h => (by simp at h)⟩
theorem DSt.cells {X L : Hl} {A : Option Addr} {n c : Nat} {R : List Rc} {G : List Bool} (h : DSt X A n c R G) {w0 W : World} (HO : Own w0 W (X ++ L)) {i : Nat} {r : Rc} {g : Bool} (hi : R[i]? = some r) (hg : G[i]? = some g) :
    ∃ gs Ab cb B J, A = some ⟨gs, 0, none⟩ ∧ W.cell? ⟨gs, i * 4, none⟩ = some (.int .i64 r.ow) ∧ W.cell? ⟨gs, i * 4 + 1, none⟩ = some (.int .i64 r.st) ∧ W.cell? ⟨gs, i * 4 + 2, none⟩ = some (.slice Ab r.b.length cb) ∧ W.cell? ⟨gs, i * 4 + 3, none⟩ = some (.bool g) ∧
      RowOf 5 1 B (.slice Ab r.b.length cb) r.b.length (r.b.map (Value.int .u8)) ∧ X.Perm (B ++ J) := by
  obtain ⟨RR, T, V, rfl, hR, hB⟩ := h.ex
  have hil : i < R.length := by
    rcases Nat.lt_or_ge i R.length with h' | h'
    · exact h'
    · rw [List.getElem?_eq_none h'] at hi; cases hi
  have HO' : Own w0 W (RR ++ (T ++ L)) := by rw [← List.append_assoc]; exact HO
  obtain ⟨T1, B, T2, v, hT, hv, hrow, _⟩ := hB.at i r hi
  obtain ⟨Ab, cb, rfl⟩ := RowOf.shape hrow
  obtain ⟨gs, cap, hs, _, _, _, _, hcell⟩ := hR.cells HO' (by have := h.len; omega)
  simp only [Value.slice.injEq] at hs
  obtain ⟨rfl, _, rfl⟩ := hs
  obtain ⟨k0, k1, k2, k3⟩ := dcells_at R G V i r g _ hi hg hv
  refine ⟨gs, Ab, cb, B, RR ++ (T1 ++ T2), rfl, hcell _ _ k0, hcell _ _ k1, hcell _ _ k2, hcell _ _ k3, hrow, ?_⟩
  rw [hT]
  exact (by classical exact List.perm_iff_count.2 (fun a => by simp only [List.count_append, List.count_cons, List.count_nil, List.append_assoc, List.cons_append, List.nil_append] <;> ac_rfl))
/-- The records that are not gone. -/
def live : List Rc → List Bool → List Rc
  | r :: R, g :: G => if g = true then live R G else r :: live R G
  | _, _ => []
theorem live_mem : ∀ (R : List Rc) (G : List Bool), ∀ r ∈ live R G, r ∈ R
  | [], _, r, h => by simp [live] at h
  | _ :: _, [], r, h => by simp [live] at h
  | a :: R, g :: G, r, h => by
    unfold live at h
    split at h
    · exact List.mem_cons_of_mem _ (live_mem R G r h)
    · rcases List.mem_cons.1 h with rfl | h
      · exact List.mem_cons_self ..
      · exact List.mem_cons_of_mem _ (live_mem R G r h)
theorem live_len : ∀ (R : List Rc) (G : List Bool), (live R G).length ≤ R.length
  | [], _ => by simp [live]
  | _ :: _, [] => by simp [live]
  | a :: R, g :: G => by
    have := live_len R G
    unfold live
    split <;> simp only [List.length_cons] <;> omega
theorem live_drop {R : List Rc} {G : List Bool} {i : Nat} (h1 : i < R.length) (h2 : i < G.length) : live (R.drop i) (G.drop i) = if G[i] = true then live (R.drop (i + 1)) (G.drop (i + 1)) else R[i] :: live (R.drop (i + 1)) (G.drop (i + 1)) := by
  rw [List.drop_eq_getElem_cons h1, List.drop_eq_getElem_cons h2]
  rfl
set_option maxHeartbeats 8000000 in
set_option maxRecDepth 100000 in
theorem dused_calls (w0 w : World) (L X : Hl) (gw : Nat) (room drops : Int) (A : Option Addr) (n c : Nat) (R : List Rc) (G : List Bool) (hS : DSt X A n c R G) (hO : Own w0 w ((gw, .cells #[.int .i64 room, .int .i64 drops, .slice A n c] 72 (0, 0)) :: (X ++ L))) : Calls Try.prog 84 #[.pointer (some ⟨gw, 0, none⟩)] w fun e w' => e = .returned (.int .i64 (used (live R G) : Int)) ∧ Own w0 w' ((gw, .cells #[.int .i64 room, .int .i64 drops, .slice A n c] 72 (0, 0)) :: (X ++ L)) := by
  have hui := Try.underlying3
  have hul := Try.underlying32
  have hu8 := Try.underlying5
  have hub := Try.underlying4
  have hur := Try.underlying78
  have hurs := Try.underlying70
  have HO : Aside0 (Own w0 w ((gw, .cells #[.int .i64 room, .int .i64 drops, .slice A n c] 72 (0, 0)) :: (X ++ L))) := ⟨hO⟩
  have HS := Aside0.mk hS
  clear hO hS
  obtain ⟨t, ht⟩ : ∃ t : Nat, used (live R G) = t := ⟨_, rfl⟩
  have HT : Aside0 (used (live R G) = t ∧ t ≤ 3200) := ⟨ht, by have h1 := used_le (live R G) (fun r hr => HS.out.bs r (live_mem R G r hr)); have := live_len R G; have := HS.out.len; have := HS.out.le; omega⟩
  rw [ht]
  clear ht
  go_enter Try.func84, Try.ntmps84
  go_wp2
  go_loopg [3, 4] n (fun gk v3 v4 w' => ∃ i u : Nat, v4 = .int .i64 (i : Int) ∧ v3 = .int .i64 (u : Int) ∧ Aside0 (i + gk = n) ∧ Aside0 (u + used (live (R.drop i) (G.drop i)) = t) ∧ Aside0 (Own w0 w' ((gw, .cells #[.int .i64 room, .int .i64 drops, .slice A n c] 72 (0, 0)) :: (X ++ L))))
  case atStart => exact ⟨0, 0, rfl, rfl, ⟨Nat.zero_add _⟩, ⟨by rw [Nat.zero_add]; exact HT.out.1⟩, HO⟩
  case round =>
    clear HO
    obtain ⟨i, u, rfl, rfl, HI, HF, HO⟩ := hrel
    cases gk with
    | zero =>
      have c1 : decide ((i : Int) < (n : Int)) = false := decide_eq_false (by have := HI.out; omega)
      have c1n : decide (i < n) = false := decide_eq_false (by have := HI.out; omega)
      have hu : u = t := by have := HF.out; rw [List.drop_eq_nil_of_le (by have := HI.out; have := HS.out.len; omega)] at this; exact this
      subst hu
      go_wp2_with (first | ((with_reducible refine gate_dst (N := 9) rfl ?_); refine own_load HO.out rfl (x := .tmp 8) (v := .slice A n c) rfl (by rfl) (by (repeat (first | exact .head | apply Ext.tail))) hurs (by rfl) (by rfl) ?_))
      go_ret
      exact ⟨rfl, HO.out⟩
    | succ m =>
      have hin : i < n := by have := HI.out; omega
      have hi : i < R.length := by have := HI.out; have := HS.out.len; omega
      have hi2 : i < G.length := by have := HI.out; have := HS.out.glen; omega
      have c1 : decide ((i : Int) < (n : Int)) = true := decide_eq_true (by omega)
      have c1n : decide (i < n) = true := decide_eq_true hin
      have p1 := eq_true (show 0 ≤ (i : Int) by omega)
      have q1 := eq_true (show (i : Int) < (n : Int) by omega)
      have q1n := eq_true hin
      obtain ⟨gs, Ab, cb, B, J, rfl, hx0, hx1, hx2, hx3, -, -⟩ := HS.out.cells HO.out.drop (List.getElem?_eq_getElem hi) (List.getElem?_eq_getElem hi2)
      have HF2 := HF.out
      rw [live_drop hi hi2] at HF2
      have hbl : R[i].b.length ≤ 32 := HS.out.bs _ (List.getElem_mem hi)
      clear HF
      generalize R[i] = r at hx0 hx1 hx2 hx3 HF2 hbl
      generalize G[i] = g at hx0 hx1 hx2 hx3 HF2 hbl
      have W1 := w_of (x := (i : Int) + 1) (y := ((i + 1 : Nat) : Int)) (by omega) (by have := HS.out.le; omega)
      cases g with
      | true =>
        rw [if_pos rfl] at HF2
        have HF4 := Aside0.mk HF2
        clear HF2 hbl hin hi hi2
        have u1 := W1.out.1; have u1b := W1.out.2
        go_wp2_with (first | ((with_reducible refine gate_dst (N := 9) rfl ?_); refine own_load HO.out rfl (x := .tmp 8) (v := .slice (some ⟨gs, 0, none⟩) n c) rfl (by rfl) (by (repeat (first | exact .head | apply Ext.tail))) hurs (by rfl) (by rfl) ?_) | ((with_reducible refine gate_dst (N := 17) rfl ?_); refine own_load HO.out rfl (x := .tmp 16) (v := .slice (some ⟨gs, 0, none⟩) n c) rfl (by rfl) (by (repeat (first | exact .head | apply Ext.tail))) hurs (by rfl) (by rfl) ?_))
        go_roundg m
        case measure => clear u1 u1b; omega
        case rel => exact ⟨i + 1, u, rfl, rfl, ⟨by clear u1 u1b; have := HI.out; omega⟩, HF4, HO⟩
      | false =>
        rw [if_neg (by decide)] at HF2
        unfold used at HF2
        obtain ⟨u1_, hu1⟩ : ∃ u1_ : Nat, u1_ = u + 8 := ⟨_, rfl⟩
        obtain ⟨u2, hu2⟩ : ∃ u2 : Nat, u2 = u1_ + r.b.length := ⟨_, rfl⟩
        have HF4 : Aside0 (u2 + used (live (R.drop (i + 1)) (G.drop (i + 1))) = t) := ⟨by rw [hu2, hu1]; omega⟩
        have W2 := w_of (x := (u : Int) + 8) (y := (u1_ : Int)) (by omega) (by have := HT.out; omega)
        have W3 := w_of (x := (u1_ : Int) + (r.b.length : Int)) (y := (u2 : Int)) (by omega) (by have := HT.out; have := HF4.out; omega)
        clear HF2 hbl hu1 hu2 hin hi hi2
        have u1 := W1.out.1; have u1b := W1.out.2; have u3 := W2.out.1; have u3b := W2.out.2; have u4 := W3.out.1; have u4b := W3.out.2
        go_wp2_with (first | ((with_reducible refine gate_dst (N := 9) rfl ?_); refine own_load HO.out rfl (x := .tmp 8) (v := .slice (some ⟨gs, 0, none⟩) n c) rfl (by rfl) (by (repeat (first | exact .head | apply Ext.tail))) hurs (by rfl) (by rfl) ?_) | ((with_reducible refine gate_dst (N := 17) rfl ?_); refine own_load HO.out rfl (x := .tmp 16) (v := .slice (some ⟨gs, 0, none⟩) n c) rfl (by rfl) (by (repeat (first | exact .head | apply Ext.tail))) hurs (by rfl) (by rfl) ?_) | ((with_reducible refine gate_dst (N := 28) rfl ?_); refine own_load HO.out rfl (x := .tmp 27) (v := .slice (some ⟨gs, 0, none⟩) n c) rfl (by rfl) (by (repeat (first | exact .head | apply Ext.tail))) hurs (by rfl) (by rfl) ?_))
        go_roundg m
        case measure => clear u1 u1b u3 u3b u4 u4b; omega
        case rel => exact ⟨i + 1, u2, rfl, rfl, ⟨by clear u1 u1b u3 u3b u4 u4b; have := HI.out; omega⟩, HF4, HO⟩
set_option maxHeartbeats 8000000 in
set_option maxRecDepth 100000 in
theorem dhas_out (w0 w : World) (L X : Hl) (gw : Nat) (room drops : Int) (A : Option Addr) (n c : Nat) (R : List Rc) (G : List Bool) (hS : DSt X A n c R G) (x : Int) (hx : x < 0 ∨ (n : Int) ≤ x) (hO : Own w0 w ((gw, .cells #[.int .i64 room, .int .i64 drops, .slice A n c] 72 (0, 0)) :: (X ++ L))) : Calls Try.prog 51 #[.pointer (some ⟨gw, 0, none⟩), .int .i64 x] w fun e w' => e = .returned (.bool false) ∧ Own w0 w' ((gw, .cells #[.int .i64 room, .int .i64 drops, .slice A n c] 72 (0, 0)) :: (X ++ L)) := by
  have hui := Try.underlying3
  have hul := Try.underlying32
  have hu8 := Try.underlying5
  have hub := Try.underlying4
  have hur := Try.underlying78
  have hurs := Try.underlying70
  have HO : Aside0 (Own w0 w ((gw, .cells #[.int .i64 room, .int .i64 drops, .slice A n c] 72 (0, 0)) :: (X ++ L))) := ⟨hO⟩
  have HS := Aside0.mk hS
  clear hO hS
  have hk2 : World.cell? w ⟨gw, 2, none⟩ = some (.slice A n c) := (HO.out.cell .head 2).trans rfl
  by_cases h0 : 0 ≤ x
  · have c1 : decide (0 ≤ x) = true := decide_eq_true h0
    have c2 : decide (x < (n : Int)) = false := decide_eq_false (by omega)
    clear hx h0
    go_enter Try.func51, Try.ntmps51
    go_wp2
    go_ret
    exact ⟨rfl, HO.out⟩
  · have c1 : decide (0 ≤ x) = false := decide_eq_false h0
    clear hx h0
    go_enter Try.func51, Try.ntmps51
    go_wp2
    go_ret
    exact ⟨rfl, HO.out⟩
set_option maxHeartbeats 8000000 in
set_option maxRecDepth 100000 in
theorem dhas_in (w0 w : World) (L X : Hl) (gw : Nat) (room drops : Int) (A : Option Addr) (n c : Nat) (R : List Rc) (G : List Bool) (hS : DSt X A n c R G) (i : Nat) (r : Rc) (g t : Bool) (hi : R[i]? = some r) (hg : G[i]? = some g) (ht : (!g && r.st == 0) = t) (hO : Own w0 w ((gw, .cells #[.int .i64 room, .int .i64 drops, .slice A n c] 72 (0, 0)) :: (X ++ L))) : Calls Try.prog 51 #[.pointer (some ⟨gw, 0, none⟩), .int .i64 (i : Int)] w fun e w' => e = .returned (.bool t) ∧ Own w0 w' ((gw, .cells #[.int .i64 room, .int .i64 drops, .slice A n c] 72 (0, 0)) :: (X ++ L)) := by
  have hin : i < n := by rw [← hS.len]; exact (List.getElem?_eq_some_iff.1 hi).1
  have hui := Try.underlying3
  have hul := Try.underlying32
  have hu8 := Try.underlying5
  have hub := Try.underlying4
  have hur := Try.underlying78
  have hurs := Try.underlying70
  have HO : Aside0 (Own w0 w ((gw, .cells #[.int .i64 room, .int .i64 drops, .slice A n c] 72 (0, 0)) :: (X ++ L))) := ⟨hO⟩
  have HS := Aside0.mk hS
  clear hO hS
  obtain ⟨gs, Ab, cb, B, J, rfl, hx0, hx1, hx2, hx3, -, -⟩ := HS.out.cells HO.out.drop hi hg
  have hk2 : World.cell? w ⟨gw, 2, none⟩ = some (.slice (some ⟨gs, 0, none⟩) n c) := (HO.out.cell .head 2).trans rfl
  have c1 : decide (0 ≤ (i : Int)) = true := decide_eq_true (by omega)
  have c2 : decide ((i : Int) < (n : Int)) = true := decide_eq_true (by omega)
  have c2n : decide (i < n) = true := decide_eq_true hin
  have p1 := eq_true (show 0 ≤ (i : Int) by omega)
  have q1 := eq_true (show (i : Int) < (n : Int) by omega)
  have q1n := eq_true hin
  clear hi hg hin
  cases g with
  | true =>
    obtain rfl : t = false := by rw [← ht]; rfl
    clear ht
    go_enter Try.func51, Try.ntmps51
    go_wp2
    go_ret
    exact ⟨rfl, HO.out⟩
  | false =>
    have h1 : (r.st == 0) = t := by rw [← ht]; simp
    have h2 : decide (r.st = 0) = t := by rw [← h1]; rfl
    clear ht
    go_enter Try.func51, Try.ntmps51
    go_wp2
    go_ret
    exact ⟨rfl, HO.out⟩
set_option maxHeartbeats 8000000 in
set_option maxRecDepth 100000 in
theorem dheld_calls (w0 w : World) (L X : Hl) (gw : Nat) (room drops : Int) (A : Option Addr) (n c : Nat) (R : List Rc) (G : List Bool) (hS : DSt X A n c R G) (hO : Own w0 w ((gw, .cells #[.int .i64 room, .int .i64 drops, .slice A n c] 72 (0, 0)) :: (X ++ L))) : Calls Try.prog 86 #[.pointer (some ⟨gw, 0, none⟩)] w fun e w' => ∃ v', e = .returned v' ∧ ∃ H, RowOf 3 1 H v' (heldl (live R G)).length ((heldl (live R G)).map (Value.int .i64)) ∧ Own w0 w' ((gw, .cells #[.int .i64 room, .int .i64 drops, .slice A n c] 72 (0, 0)) :: (H ++ (X ++ L))) := by
  have hui := Try.underlying3
  have hul := Try.underlying32
  have hu8 := Try.underlying5
  have hub := Try.underlying4
  have hur := Try.underlying78
  have hurs := Try.underlying70
  have HO : Aside0 (Own w0 w ((gw, .cells #[.int .i64 room, .int .i64 drops, .slice A n c] 72 (0, 0)) :: (X ++ L))) := ⟨hO⟩
  have HS := Aside0.mk hS
  clear hO hS
  have huis := Try.underlying144
  obtain ⟨t, ht⟩ : ∃ t : List Int, heldl (live R G) = t := ⟨_, rfl⟩
  have HT : Aside0 (heldl (live R G) = t ∧ t.length ≤ 80) := ⟨ht, by have := heldl_len (live R G); have := live_len R G; have := HS.out.len; have := HS.out.le; rw [← ht]; omega⟩
  rw [ht]
  clear ht
  go_enter Try.func86, Try.ntmps86
  go_wp2
  go_loopg [3, 4] n (fun gk v3 v4 w' => ∃ (i m cH : Nat) (AH : Option Addr) (H : Hl) (hl : List Int), v4 = .int .i64 (i : Int) ∧ v3 = .slice AH m cH ∧ Aside0 (i + gk = n) ∧ Aside0 (hl ++ heldl (live (R.drop i) (G.drop i)) = t) ∧ Aside0 (RowOf 3 1 H (.slice AH m cH) m (hl.map (Value.int .i64))) ∧ Aside0 (Own w0 w' ((gw, .cells #[.int .i64 room, .int .i64 drops, .slice A n c] 72 (0, 0)) :: (H ++ (X ++ L)))))
  case atStart => exact ⟨0, 0, 0, none, [], [], rfl, rfl, ⟨Nat.zero_add _⟩, ⟨HT.out.1⟩, ⟨RowOf.none _ _⟩, HO⟩
  case round =>
    clear HO
    obtain ⟨i, m, cH, AH, H, hl, rfl, rfl, HI, HF, HH, HO⟩ := hrel
    have HM : Aside0 (m = hl.length ∧ m ≤ 80) := ⟨by have h1 := row_len13 HH.out; rw [List.length_map] at h1; have h2 := congrArg List.length HF.out; rw [List.length_append] at h2; have := HT.out.2; constructor <;> omega⟩
    cases gk with
    | zero =>
      have c1 : decide ((i : Int) < (n : Int)) = false := decide_eq_false (by have := HI.out; omega)
      have c1n : decide (i < n) = false := decide_eq_false (by have := HI.out; omega)
      have hu : hl = t := by have := HF.out; rw [List.drop_eq_nil_of_le (by have := HI.out; have := HS.out.len; omega)] at this; exact (List.append_nil _).symm.trans this
      subst hu
      go_wp2_with (first | ((with_reducible refine gate_dst (N := 9) rfl ?_); refine own_load HO.out rfl (x := .tmp 8) (v := .slice A n c) rfl (by rfl) (by (repeat (first | exact .head | apply Ext.tail))) hurs (by rfl) (by rfl) ?_))
      go_ret
      exact ⟨_, rfl, H, by rw [← HM.out.1]; exact HH.out, HO.out⟩
    | succ gm =>
      have hin : i < n := by have := HI.out; omega
      have hi : i < R.length := by have := HI.out; have := HS.out.len; omega
      have hi2 : i < G.length := by have := HI.out; have := HS.out.glen; omega
      have c1 : decide ((i : Int) < (n : Int)) = true := decide_eq_true (by omega)
      have c1n : decide (i < n) = true := decide_eq_true hin
      have HF2 := HF.out
      rw [live_drop hi hi2] at HF2
      have HR : Aside0 (R[i]? = some R[i]) := ⟨List.getElem?_eq_getElem hi⟩
      have HG : Aside0 (G[i]? = some G[i]) := ⟨List.getElem?_eq_getElem hi2⟩
      clear HF
      generalize R[i] = r at HF2 HR
      generalize G[i] = g at HF2 HG
      have hid := HS.out.ids i r HR.out
      have W1 := w_of (x := (i : Int) + 1) (y := ((i + 1 : Nat) : Int)) (by omega) (by have := HS.out.le; omega)
      have u1 := W1.out.1; have u1b := W1.out.2
      by_cases hh : (!g && r.st == 0) = true
      · have HT2 := Aside0.mk hh
        have hg : g = false := by cases g <;> simp_all
        have h0 : r.st = 0 := by cases g <;> simp_all
        have HF4 : Aside0 ((hl ++ [(i : Int)]) ++ heldl (live (R.drop (i + 1)) (G.drop (i + 1))) = t) := ⟨by rw [hg, if_neg (by decide)] at HF2; unfold heldl at HF2; rw [if_pos h0, hid] at HF2; rw [← HF2]; simp⟩
        clear HF2 hin hi hi2 hh hg h0 hid
        go_wp2_with (first | ((with_reducible refine gate_dst (N := 9) rfl ?_); refine own_load HO.out rfl (x := .tmp 8) (v := .slice A n c) rfl (by rfl) (by (repeat (first | exact .head | apply Ext.tail))) hurs (by rfl) (by rfl) ?_) | ((with_reducible refine gate_callee (f := 51) rfl ?_); (with_reducible refine gate_dst (N := 16) rfl ?_); refine goesL_ (some 16) rfl rfl Try.func51 (by kernel_rfl) rfl #[.pointer (some ⟨gw, 0, none⟩), .int .i64 (i : Int)] rfl (by (try simp only [List.map_toArray, List.map_cons, List.map_nil]); first | done | rfl) ?_; (with_reducible refine (dhas_in w0 _ (H ++ L) X gw room drops A n c R G HS.out i r g true HR.out HG.out HT2.out (HO.out.repr (L' := (gw, .cells #[.int .i64 room, .int .i64 drops, .slice A n c] 72 (0, 0)) :: (X ++ (H ++ L))) [] (by classical exact List.perm_iff_count.2 (fun a => by simp only [List.count_append, List.count_cons, List.count_nil, List.append_assoc, List.cons_append, List.nil_append] <;> ac_rfl)))).mono ?_); rintro e wx ⟨rfl, hO_⟩; refine ⟨_, rfl, ?_⟩; have hO_ := hO_.repr (L' := (gw, .cells #[.int .i64 room, .int .i64 drops, .slice A n c] 72 (0, 0)) :: (H ++ (X ++ L))) [] (by classical exact List.perm_iff_count.2 (fun a => by simp only [List.count_append, List.count_cons, List.count_nil, List.append_assoc, List.cons_append, List.nil_append] <;> ac_rfl)); clear HO; have HO := Aside0.mk hO_; clear hO_) | ((with_reducible refine gate_dst (N := 19) rfl ?_); refine own_lit HO.out rfl (N := 19) rfl (cs := #[.int .i64 (i : Int)]) (t := 3) (n := 1) (m := 1) (by first | (go_simp; done) | (go_simp; rfl) | kernel_rfl) ?_; intro g19 w19 hO_; clear HO; have HO := Aside0.mk hO_; clear hO_) | ((with_reducible refine gate_dst (N := 20) rfl ?_); refine own_append (z := .int .i64 0) (size := 1) (bytes := 8) (R := H) (L := X ++ L) [(g19, .cells #[.int .i64 (i : Int)] 3 (0, 0)), (gw, .cells #[.int .i64 room, .int .i64 drops, .slice A n c] 72 (0, 0))] HO.out rfl rfl huis (by kernel_rfl) rfl (by rfl) HH.out (by rfl) (HO.out.src huis .head 0 1 1 [.int .i64 (i : Int)] rfl rfl (by simp [Value.oneCell'])) (by have := HM.out; show m + 1 ≤ 9223372036854775807; omega) (by have := HM.out; omega) ?_; intro v2 H2 wc hH2 hO_; obtain ⟨AH2, cH2, rfl⟩ := RowOf.shape hH2; have HH2 := Aside0.mk hH2; clear hH2; have hO_ : Own w0 wc ((gw, .cells #[.int .i64 room, .int .i64 drops, .slice A n c] 72 (0, 0)) :: (H2 ++ (X ++ L))) := hO_.drop; clear HO; have HO := Aside0.mk hO_; clear hO_))
        go_roundg gm
        case measure => clear u1 u1b; omega
        case rel => exact ⟨i + 1, m + 1, cH2, AH2, H2, hl ++ [(i : Int)], rfl, rfl, ⟨by clear u1 u1b; have := HI.out; omega⟩, HF4, ⟨by rw [List.map_append]; exact HH2.out⟩, HO⟩
      · have hf : (!g && r.st == 0) = false := by cases h : (!g && r.st == 0) <;> simp_all
        have HT2 := Aside0.mk hf
        have HF4 : Aside0 (hl ++ heldl (live (R.drop (i + 1)) (G.drop (i + 1))) = t) := ⟨by
          cases g with
          | true => rw [if_pos rfl] at HF2; exact HF2
          | false =>
            rw [if_neg (by decide)] at HF2
            unfold heldl at HF2
            rw [if_neg (by intro h0; rw [h0] at hf; exact absurd hf (by decide))] at HF2
            exact HF2⟩
        clear HF2 hin hi hi2 hh hf hid
        go_wp2_with (first | ((with_reducible refine gate_dst (N := 9) rfl ?_); refine own_load HO.out rfl (x := .tmp 8) (v := .slice A n c) rfl (by rfl) (by (repeat (first | exact .head | apply Ext.tail))) hurs (by rfl) (by rfl) ?_) | ((with_reducible refine gate_callee (f := 51) rfl ?_); (with_reducible refine gate_dst (N := 16) rfl ?_); refine goesL_ (some 16) rfl rfl Try.func51 (by kernel_rfl) rfl #[.pointer (some ⟨gw, 0, none⟩), .int .i64 (i : Int)] rfl (by (try simp only [List.map_toArray, List.map_cons, List.map_nil]); first | done | rfl) ?_; (with_reducible refine (dhas_in w0 _ (H ++ L) X gw room drops A n c R G HS.out i r g false HR.out HG.out HT2.out (HO.out.repr (L' := (gw, .cells #[.int .i64 room, .int .i64 drops, .slice A n c] 72 (0, 0)) :: (X ++ (H ++ L))) [] (by classical exact List.perm_iff_count.2 (fun a => by simp only [List.count_append, List.count_cons, List.count_nil, List.append_assoc, List.cons_append, List.nil_append] <;> ac_rfl)))).mono ?_); rintro e wx ⟨rfl, hO_⟩; refine ⟨_, rfl, ?_⟩; have hO_ := hO_.repr (L' := (gw, .cells #[.int .i64 room, .int .i64 drops, .slice A n c] 72 (0, 0)) :: (H ++ (X ++ L))) [] (by classical exact List.perm_iff_count.2 (fun a => by simp only [List.count_append, List.count_cons, List.count_nil, List.append_assoc, List.cons_append, List.nil_append] <;> ac_rfl)); clear HO; have HO := Aside0.mk hO_; clear hO_))
        go_roundg gm
        case measure => clear u1 u1b; omega
        case rel => exact ⟨i + 1, m, cH, AH, H, hl, rfl, rfl, ⟨by clear u1 u1b; have := HI.out; omega⟩, HF4, HH, HO⟩
theorem live_ids {R : List Rc} {G : List Bool} : True := trivial
set_option maxHeartbeats 8000000 in
set_option maxRecDepth 100000 in
theorem dby_calls (w0 w : World) (L X : Hl) (gw : Nat) (room drops : Int) (A : Option Addr) (n c : Nat) (R : List Rc) (G : List Bool) (hS : DSt X A n c R G) (hO : Own w0 w ((gw, .cells #[.int .i64 room, .int .i64 drops, .slice A n c] 72 (0, 0)) :: (X ++ L))) : Calls Try.prog 87 #[.pointer (some ⟨gw, 0, none⟩)] w fun e w' => ∃ v', e = .returned v' ∧ ∃ H, RowOf 5 1 H v' (rbytesl (live R G)).length ((rbytesl (live R G)).map (Value.int .u8)) ∧ Own w0 w' ((gw, .cells #[.int .i64 room, .int .i64 drops, .slice A n c] 72 (0, 0)) :: (H ++ (X ++ L))) := by
  have hui := Try.underlying3
  have hul := Try.underlying32
  have hu8 := Try.underlying5
  have hub := Try.underlying4
  have hur := Try.underlying78
  have hurs := Try.underlying70
  have HO : Aside0 (Own w0 w ((gw, .cells #[.int .i64 room, .int .i64 drops, .slice A n c] 72 (0, 0)) :: (X ++ L))) := ⟨hO⟩
  have HS := Aside0.mk hS
  clear hO hS
  obtain ⟨t, ht⟩ : ∃ t : List Int, rbytesl (live R G) = t := ⟨_, rfl⟩
  have HT : Aside0 (rbytesl (live R G) = t ∧ t.length ≤ 2880) := ⟨ht, by have := rbytesl_len (live R G) (fun r hr => HS.out.bs r (live_mem R G r hr)); have := live_len R G; have := HS.out.len; have := HS.out.le; rw [← ht]; omega⟩
  rw [ht]
  clear ht
  go_enter Try.func87, Try.ntmps87
  go_wp2
  go_loopg [3, 4] n (fun gk v3 v4 w' => ∃ (i m cH : Nat) (AH : Option Addr) (H : Hl) (hl : List Int), v4 = .int .i64 (i : Int) ∧ v3 = .slice AH m cH ∧ Aside0 (i + gk = n) ∧ Aside0 (hl ++ rbytesl (live (R.drop i) (G.drop i)) = t) ∧ Aside0 (RowOf 5 1 H (.slice AH m cH) m (hl.map (Value.int .u8))) ∧ Aside0 (Own w0 w' ((gw, .cells #[.int .i64 room, .int .i64 drops, .slice A n c] 72 (0, 0)) :: (H ++ (X ++ L)))))
  case atStart => exact ⟨0, 0, 0, none, [], [], rfl, rfl, ⟨Nat.zero_add _⟩, ⟨HT.out.1⟩, ⟨RowOf.none _ _⟩, HO⟩
  case round =>
    clear HO
    obtain ⟨i, m, cH, AH, H, hl, rfl, rfl, HI, HF, HH, HO⟩ := hrel
    cases gk with
    | zero =>
      have c1 : decide ((i : Int) < (n : Int)) = false := decide_eq_false (by have := HI.out; omega)
      have c1n : decide (i < n) = false := decide_eq_false (by have := HI.out; omega)
      have hu : hl = t := by have := HF.out; rw [List.drop_eq_nil_of_le (by have := HI.out; have := HS.out.len; omega)] at this; exact (List.append_nil _).symm.trans this
      subst hu
      have hm : m = hl.length := by have h1 := row_len13 HH.out; rw [List.length_map] at h1; omega
      have HMM := Aside0.mk hm
      clear hm
      go_wp2_with (first | ((with_reducible refine gate_dst (N := 10) rfl ?_); refine own_load HO.out rfl (x := .tmp 9) (v := .slice A n c) rfl (by rfl) (by (repeat (first | exact .head | apply Ext.tail))) hurs (by rfl) (by rfl) ?_))
      go_ret
      exact ⟨_, rfl, H, by rw [← HMM.out]; exact HH.out, HO.out⟩
    | succ gm =>
      have hin : i < n := by have := HI.out; omega
      have hi : i < R.length := by have := HI.out; have := HS.out.len; omega
      have hi2 : i < G.length := by have := HI.out; have := HS.out.glen; omega
      have c1 : decide ((i : Int) < (n : Int)) = true := decide_eq_true (by omega)
      have c1n : decide (i < n) = true := decide_eq_true hin
      have p1 := eq_true (show 0 ≤ (i : Int) by omega)
      have q1 := eq_true (show (i : Int) < (n : Int) by omega)
      have q1n := eq_true hin
      obtain ⟨gs, Ab, cb, B, J, rfl, hx0, hx1, hx2, hx3, hB, hperm⟩ := HS.out.cells (HO.out.repr (L' := X ++ ((gw, .cells #[.int .i64 room, .int .i64 drops, .slice A n c] 72 (0, 0)) :: (H ++ L))) [] (by classical exact List.perm_iff_count.2 (fun a => by simp only [List.count_append, List.count_cons, List.count_nil, List.append_assoc, List.cons_append, List.nil_append] <;> ac_rfl))) (List.getElem?_eq_getElem hi) (List.getElem?_eq_getElem hi2)
      have HB := Aside0.mk hB
      have HP := Aside0.mk hperm
      have HF2 := HF.out
      rw [live_drop hi hi2] at HF2
      have hid := HS.out.ids i R[i] (List.getElem?_eq_getElem hi)
      have hO_ : Own w0 _ ((gw, .cells #[.int .i64 room, .int .i64 drops, .slice (some ⟨gs, 0, none⟩) n c] 72 (0, 0)) :: (H ++ (B ++ (J ++ L)))) := HO.out.perm (List.Perm.cons _ (List.Perm.append_left H (by rw [← List.append_assoc]; exact List.Perm.append_right L hperm)))
      clear HO; have HO := Aside0.mk hO_; clear hO_
      clear HF hB hperm
      generalize R[i] = r at hx0 hx1 hx2 hx3 HF2 HB hid
      generalize G[i] = g at hx0 hx1 hx2 hx3 HF2
      have W1 := w_of (x := (i : Int) + 1) (y := ((i + 1 : Nat) : Int)) (by omega) (by have := HS.out.le; omega)
      cases g with
      | true =>
        rw [if_pos rfl] at HF2
        have HF4 := Aside0.mk HF2
        have u1 := W1.out.1; have u1b := W1.out.2
        clear HF2 hin hi hi2 hid
        go_wp2_with (first | ((with_reducible refine gate_dst (N := 10) rfl ?_); refine own_load HO.out rfl (x := .tmp 9) (v := .slice (some ⟨gs, 0, none⟩) n c) rfl (by rfl) (by (repeat (first | exact .head | apply Ext.tail))) hurs (by rfl) (by rfl) ?_) | ((with_reducible refine gate_dst (N := 18) rfl ?_); refine own_load HO.out rfl (x := .tmp 17) (v := .slice (some ⟨gs, 0, none⟩) n c) rfl (by rfl) (by (repeat (first | exact .head | apply Ext.tail))) hurs (by rfl) (by rfl) ?_) | ((with_reducible refine gate_dst (N := 5) rfl ?_); refine own_box HO.out ?hg (N := 5) ?hd (cs := #[.int .i64 0, .int .i64 0, .slice none 0 0, .bool false]) (t := 78) ?hr ?_; (case hd => rfl); (case hg => rfl); (case hr => first | (go_simp; done) | (go_simp; rfl) | kernel_rfl); intro g5 w5 hO_; clear HO; have HO := Aside0.mk hO_; clear hO_) | ((with_reducible refine gate_store (p := 5) rfl ?_); refine own_wstore HO.out rfl (ty := 78) (x := .tmp 5) (y := .tmp 21) (cs := #[.int .i64 r.ow, .int .i64 r.st, .slice Ab r.b.length cb, .bool true]) rfl (by rfl) (by rfl) (by (repeat (first | exact .head | apply Ext.tail))) (by kernel_rfl) (by rfl) (by kernel_rfl) ?_; intro wc hO_; clear HO; have HO := Aside0.mk hO_; clear hO_) | ((with_reducible refine gate_dst (N := 23) rfl ?_); refine own_load HO.out rfl (x := .tmp 22) (v := .bool true) rfl (by rfl) (by (repeat (first | exact .head | apply Ext.tail))) hub (by rfl) (by rfl) ?_))
        go_roundg gm
        case measure => clear u1 u1b; omega
        case rel => exact ⟨i + 1, m, cH, AH, H, hl, rfl, rfl, ⟨by clear u1 u1b; have := HI.out; omega⟩, HF4, HH, ⟨HO.out.drop.perm (List.Perm.cons _ (List.Perm.append_left H (by rw [← List.append_assoc]; exact List.Perm.append_right L HP.out.symm)))⟩⟩
      | false =>
        rw [if_neg (by decide)] at HF2
        unfold rbytesl at HF2
        have HM : Aside0 (m + 4 + r.b.length ≤ 2880) := ⟨by have h1 := row_len13 HH.out; rw [List.length_map] at h1; have h2 := congrArg List.length HF2; simp only [List.length_append, List.length_cons, List.length_nil] at h2; have := HT.out.2; omega⟩
        have HF4 : Aside0 ((hl ++ [IntKind.u8.wrap (i : Int), IntKind.u8.wrap r.ow, IntKind.u8.wrap r.st, IntKind.u8.wrap (r.b.length : Int)] ++ r.b) ++ rbytesl (live (R.drop (i + 1)) (G.drop (i + 1))) = t) := ⟨by rw [← HF2, hid]; simp⟩
        have hmod : Int.tmod (i : Int) 256 = (i : Int) := Int.tmod_eq_of_lt (by omega) (by have := HS.out.le; omega)
        have W2 := w_of (x := (i : Int)) (y := (i : Int)) rfl (by have := HS.out.le; omega)
        have u1 := W1.out.1; have u1b := W1.out.2; have u2 := W2.out.1; have u2b := W2.out.2
        clear HF2 hin hi hi2 hid
        go_wp2_with (first | ((with_reducible refine gate_dst (N := 10) rfl ?_); refine own_load HO.out rfl (x := .tmp 9) (v := .slice (some ⟨gs, 0, none⟩) n c) rfl (by rfl) (by (repeat (first | exact .head | apply Ext.tail))) hurs (by rfl) (by rfl) ?_) | ((with_reducible refine gate_dst (N := 18) rfl ?_); refine own_load HO.out rfl (x := .tmp 17) (v := .slice (some ⟨gs, 0, none⟩) n c) rfl (by rfl) (by (repeat (first | exact .head | apply Ext.tail))) hurs (by rfl) (by rfl) ?_) | ((with_reducible refine gate_dst (N := 5) rfl ?_); refine own_box HO.out ?hg (N := 5) ?hd (cs := #[.int .i64 0, .int .i64 0, .slice none 0 0, .bool false]) (t := 78) ?hr ?_; (case hd => rfl); (case hg => rfl); (case hr => first | (go_simp; done) | (go_simp; rfl) | kernel_rfl); intro g5 w5 hO_; clear HO; have HO := Aside0.mk hO_; clear hO_) | ((with_reducible refine gate_store (p := 5) rfl ?_); refine own_wstore HO.out rfl (ty := 78) (x := .tmp 5) (y := .tmp 21) (cs := #[.int .i64 r.ow, .int .i64 r.st, .slice Ab r.b.length cb, .bool false]) rfl (by rfl) (by rfl) (by (repeat (first | exact .head | apply Ext.tail))) (by kernel_rfl) (by rfl) (by kernel_rfl) ?_; intro wc hO_; clear HO; have HO := Aside0.mk hO_; clear hO_) | ((with_reducible refine gate_dst (N := 23) rfl ?_); refine own_load HO.out rfl (x := .tmp 22) (v := .bool false) rfl (by rfl) (by (repeat (first | exact .head | apply Ext.tail))) hub (by rfl) (by rfl) ?_) | ((with_reducible refine gate_dst (N := 30) rfl ?_); refine own_load HO.out rfl (x := .tmp 29) (v := .int .i64 r.ow) rfl (by rfl) (by (repeat (first | exact .head | apply Ext.tail))) hui (by rfl) (by rfl) ?_) | ((with_reducible refine gate_dst (N := 33) rfl ?_); refine own_load HO.out rfl (x := .tmp 32) (v := .int .i64 r.st) rfl (by rfl) (by (repeat (first | exact .head | apply Ext.tail))) hui (by rfl) (by rfl) ?_) | ((with_reducible refine gate_dst (N := 36) rfl ?_); refine own_load HO.out rfl (x := .tmp 35) (v := .slice Ab r.b.length cb) rfl (by rfl) (by (repeat (first | exact .head | apply Ext.tail))) hul (by rfl) (by rfl) ?_) | ((with_reducible refine gate_dst (N := 39) rfl ?_); refine own_lit HO.out rfl (N := 39) rfl (cs := #[.int .u8 (IntKind.u8.wrap (i : Int)), .int .u8 (IntKind.u8.wrap r.ow), .int .u8 (IntKind.u8.wrap r.st), .int .u8 (IntKind.u8.wrap (r.b.length : Int))]) (t := 5) (n := 4) (m := 4) (by first | (go_simp; done) | (go_simp; rfl) | kernel_rfl) ?_; intro g39 w39 hO_; clear HO; have HO := Aside0.mk hO_; clear hO_) | ((with_reducible refine gate_dst (N := 40) rfl ?_); refine own_append (z := .int .u8 0) (size := 1) (bytes := 1) (R := H) (L := B ++ (J ++ L)) [(g39, .cells #[.int .u8 (IntKind.u8.wrap (i : Int)), .int .u8 (IntKind.u8.wrap r.ow), .int .u8 (IntKind.u8.wrap r.st), .int .u8 (IntKind.u8.wrap (r.b.length : Int))] 5 (0, 0)), (g5, .cells #[.int .i64 r.ow, .int .i64 r.st, .slice Ab r.b.length cb, .bool false] 78 (0, 0)), (gw, .cells #[.int .i64 room, .int .i64 drops, .slice (some ⟨gs, 0, none⟩) n c] 72 (0, 0))] HO.out rfl rfl hul (by kernel_rfl) rfl (by rfl) HH.out (by rfl) (HO.out.src hul .head 0 4 4 [.int .u8 (IntKind.u8.wrap (i : Int)), .int .u8 (IntKind.u8.wrap r.ow), .int .u8 (IntKind.u8.wrap r.st), .int .u8 (IntKind.u8.wrap (r.b.length : Int))] rfl rfl (by simp [Value.oneCell'])) (by have := HM.out; show m + 4 ≤ 9223372036854775807; omega) (by have := HM.out; omega) ?_; intro v2 H2 wc hH2 hO_; obtain ⟨AH2, cH2, rfl⟩ := RowOf.shape hH2; have HH2 := Aside0.mk hH2; clear hH2; have hO_ : Own w0 wc ((g39, .cells #[.int .u8 (IntKind.u8.wrap (i : Int)), .int .u8 (IntKind.u8.wrap r.ow), .int .u8 (IntKind.u8.wrap r.st), .int .u8 (IntKind.u8.wrap (r.b.length : Int))] 5 (0, 0)) :: (g5, .cells #[.int .i64 r.ow, .int .i64 r.st, .slice Ab r.b.length cb, .bool false] 78 (0, 0)) :: (gw, .cells #[.int .i64 room, .int .i64 drops, .slice (some ⟨gs, 0, none⟩) n c] 72 (0, 0)) :: (H2 ++ (B ++ (J ++ L)))) := hO_; clear HO; have HO := Aside0.mk hO_; clear hO_) | ((with_reducible refine gate_dst (N := 43) rfl ?_); refine own_load HO.out rfl (x := .tmp 42) (v := .slice Ab r.b.length cb) rfl (by rfl) (by (repeat (first | exact .head | apply Ext.tail))) hul (by rfl) (by rfl) ?_) | ((with_reducible refine gate_dst (N := 44) rfl ?_); refine own_append (z := .int .u8 0) (size := 1) (bytes := 1) (R := H2) (L := B ++ (J ++ L)) [(g39, .cells #[.int .u8 (IntKind.u8.wrap (i : Int)), .int .u8 (IntKind.u8.wrap r.ow), .int .u8 (IntKind.u8.wrap r.st), .int .u8 (IntKind.u8.wrap (r.b.length : Int))] 5 (0, 0)), (g5, .cells #[.int .i64 r.ow, .int .i64 r.st, .slice Ab r.b.length cb, .bool false] 78 (0, 0)), (gw, .cells #[.int .i64 room, .int .i64 drops, .slice (some ⟨gs, 0, none⟩) n c] 72 (0, 0))] HO.out rfl rfl hul (by kernel_rfl) rfl (by rfl) HH2.out (by rfl) (RowOf.src HB.out (HO.out.repr (L' := B ++ ((g39, .cells #[.int .u8 (IntKind.u8.wrap (i : Int)), .int .u8 (IntKind.u8.wrap r.ow), .int .u8 (IntKind.u8.wrap r.st), .int .u8 (IntKind.u8.wrap (r.b.length : Int))] 5 (0, 0)) :: (g5, .cells #[.int .i64 r.ow, .int .i64 r.st, .slice Ab r.b.length cb, .bool false] 78 (0, 0)) :: (gw, .cells #[.int .i64 room, .int .i64 drops, .slice (some ⟨gs, 0, none⟩) n c] 72 (0, 0)) :: (H2 ++ (J ++ L)))) [] (by classical exact List.perm_iff_count.2 (fun a => by simp only [List.count_append, List.count_cons, List.count_nil, List.append_assoc, List.cons_append, List.nil_append] <;> ac_rfl))) hul (u8s_one _)) (by have := HM.out; show m + 4 + r.b.length ≤ 9223372036854775807; omega) (by have := HM.out; omega) ?_; intro v2 H3 wc hH2 hO_; obtain ⟨AH3, cH3, rfl⟩ := RowOf.shape hH2; have HH3 := Aside0.mk hH2; clear hH2; have hO_ : Own w0 wc ((g39, .cells #[.int .u8 (IntKind.u8.wrap (i : Int)), .int .u8 (IntKind.u8.wrap r.ow), .int .u8 (IntKind.u8.wrap r.st), .int .u8 (IntKind.u8.wrap (r.b.length : Int))] 5 (0, 0)) :: (g5, .cells #[.int .i64 r.ow, .int .i64 r.st, .slice Ab r.b.length cb, .bool false] 78 (0, 0)) :: (gw, .cells #[.int .i64 room, .int .i64 drops, .slice (some ⟨gs, 0, none⟩) n c] 72 (0, 0)) :: (H3 ++ (B ++ (J ++ L)))) := hO_; clear HO; have HO := Aside0.mk hO_; clear hO_))
        go_roundg gm
        case measure => clear u1 u1b u2 u2b hmod; omega
        case rel => exact ⟨i + 1, m + 4 + r.b.length, cH3, AH3, H3, _, rfl, rfl, ⟨by clear u1 u1b u2 u2b hmod; have := HI.out; omega⟩, HF4, ⟨by rw [List.map_append, List.map_append]; exact HH3.out⟩, ⟨HO.out.drop.drop.perm (List.Perm.cons _ (List.Perm.append_left H3 (by rw [← List.append_assoc]; exact List.Perm.append_right L HP.out.symm)))⟩⟩
end Go.Proofs.Rg
