/- Contracts of the ring's methods (ring.Ring), the third part: Room, Held, Bytes. -/
import Derived.Test.YtgkdbhkbkpfbpaaRH
set_option linter.unusedVariables false
set_option linter.unusedSimpArgs false
namespace Go.Proofs.Rg
open Go.RowKit Go.Proofs.Ev Go.Proofs.Hp Go.Proofs.Ar Go.Proofs.YtgkdbhkbkpfbpaaW.PrintWords Go.Proofs.YtgkdbhkbkpfbpaaW.PrintLast Go.Proofs.YtgkdbhkbkpfbpaaW.PrintMore
attribute [local go_sem] max2_int min2_int max_two min_two max_three min_three max_four min_four eql_slice_nil
theorem _root_.Go.Proofs.Hp.Own.repr {w0 W : World} {L L' : Hl} (h : Own w0 W L) (J : Hl) (p : L.Perm (J ++ L')) : Own w0 W L' :=
  have h := h.perm p
  ⟨h.bel, fun p hp => h.blk p (List.mem_append_right _ hp), fun p hp => h.fresh p (List.mem_append_right _ hp), by have := h.nd; rw [List.map_append] at this; exact (List.nodup_append.1 this).2.1⟩
/-- The numbers of the records that are held. -/
def heldl : List Rc → List Int
  | [] => []
  | r :: R => if r.st = 0 then r.id :: heldl R else heldl R
theorem heldl_len : ∀ R : List Rc, (heldl R).length ≤ R.length
  | [] => Nat.le_refl _
  | r :: R => by
    have := heldl_len R
    unfold heldl
    split <;> simp only [List.length_cons] <;> omega
theorem row_len13 {e : TypeId} {size : Nat} {R : Hl} {v : Value} {n : Nat} {xs : List Value} (h : RowOf e size R v n xs) : xs.length = n * size := h.1
set_option maxHeartbeats 8000000 in
set_option maxRecDepth 100000 in
theorem room_calls (w0 w : World) (L X : Hl) (gr : Nat) (room drops nxt : Int) (A : Option Addr) (n c : Nat) (R : List Rc) (hS : RSt X A n c R) (hO : Own w0 w ((gr, .cells #[.int .i64 room, .int .i64 drops, .int .i64 nxt, .slice A n c] 133 (0, 0)) :: (X ++ L))) : Calls Try.prog 45 #[.pointer (some ⟨gr, 0, none⟩)] w fun e w' => e = .returned (.int .i64 room) ∧ Own w0 w' ((gr, .cells #[.int .i64 room, .int .i64 drops, .int .i64 nxt, .slice A n c] 133 (0, 0)) :: (X ++ L)) := by
  have hui := Try.underlying3
  have hul := Try.underlying32
  have hu8 := Try.underlying5
  have hur := Try.underlying135
  have hurs := Try.underlying131
  have HO : Aside0 (Own w0 w ((gr, .cells #[.int .i64 room, .int .i64 drops, .int .i64 nxt, .slice A n c] 133 (0, 0)) :: (X ++ L))) := ⟨hO⟩
  have HS := Aside0.mk hS
  clear hO hS
  go_enter Try.func45, Try.ntmps45
  go_wp2_with (first | ((with_reducible refine gate_dst (N := 8) rfl ?_); refine own_load HO.out rfl (x := .tmp 7) (v := .int .i64 room) rfl (by rfl) (by (repeat (first | exact .head | apply Ext.tail))) hui (by rfl) (by rfl) ?_))
  go_ret
  exact ⟨rfl, HO.out⟩
set_option maxHeartbeats 8000000 in
set_option maxRecDepth 100000 in
theorem held_calls (w0 w : World) (L X : Hl) (gr : Nat) (room drops nxt : Int) (A : Option Addr) (n c : Nat) (R : List Rc) (hS : RSt X A n c R) (hO : Own w0 w ((gr, .cells #[.int .i64 room, .int .i64 drops, .int .i64 nxt, .slice A n c] 133 (0, 0)) :: (X ++ L))) : Calls Try.prog 85 #[.pointer (some ⟨gr, 0, none⟩)] w fun e w' => ∃ v', e = .returned v' ∧ ∃ H, RowOf 3 1 H v' (heldl R).length ((heldl R).map (Value.int .i64)) ∧ Own w0 w' ((gr, .cells #[.int .i64 room, .int .i64 drops, .int .i64 nxt, .slice A n c] 133 (0, 0)) :: (H ++ (X ++ L))) := by
  have hui := Try.underlying3
  have hul := Try.underlying32
  have hu8 := Try.underlying5
  have hur := Try.underlying135
  have hurs := Try.underlying131
  have HO : Aside0 (Own w0 w ((gr, .cells #[.int .i64 room, .int .i64 drops, .int .i64 nxt, .slice A n c] 133 (0, 0)) :: (X ++ L))) := ⟨hO⟩
  have HS := Aside0.mk hS
  clear hO hS
  have huis := Try.underlying144
  obtain ⟨t, ht⟩ : ∃ t : List Int, heldl R = t := ⟨_, rfl⟩
  have HT : Aside0 (heldl R = t ∧ t.length ≤ 64) := ⟨ht, by have := heldl_len R; have := HS.out.len; have := HS.out.le; rw [← ht]; omega⟩
  rw [ht]
  clear ht
  go_enter Try.func85, Try.ntmps85
  go_wp2_with (first | ((with_reducible refine gate_dst (N := 11) rfl ?_); refine own_load HO.out rfl (x := .tmp 10) (v := .slice A n c) rfl (by rfl) (by (repeat (first | exact .head | apply Ext.tail))) hurs (by rfl) (by rfl) ?_))
  go_loopg [3, 13] n (fun gk v3 v13 w' => ∃ (i m cH : Nat) (AH : Option Addr) (H : Hl) (hl : List Int), v13 = .int .i64 (i : Int) ∧ v3 = .slice AH m cH ∧ Aside0 (i + gk = n) ∧ Aside0 (hl ++ heldl (R.drop i) = t) ∧ Aside0 (RowOf 3 1 H (.slice AH m cH) m (hl.map (Value.int .i64))) ∧ Aside0 (Own w0 w' ((gr, .cells #[.int .i64 room, .int .i64 drops, .int .i64 nxt, .slice A n c] 133 (0, 0)) :: (H ++ (X ++ L)))))
  case atStart => exact ⟨0, 0, 0, none, [], [], rfl, rfl, ⟨Nat.zero_add _⟩, ⟨HT.out.1⟩, ⟨RowOf.none _ _⟩, HO⟩
  case round =>
    clear HO
    obtain ⟨i, m, cH, AH, H, hl, rfl, rfl, HI, HF, HH, HO⟩ := hrel
    have HM : Aside0 (m = hl.length ∧ m ≤ 64) := ⟨by have h1 := row_len13 HH.out; rw [List.length_map] at h1; have h2 := congrArg List.length HF.out; rw [List.length_append] at h2; have := HT.out.2; constructor <;> omega⟩
    cases gk with
    | zero =>
      have c1 : decide ((i : Int) < (n : Int)) = false := decide_eq_false (by have := HI.out; omega)
      have c1n : decide (i < n) = false := decide_eq_false (by have := HI.out; omega)
      have hu : hl = t := by have := HF.out; rw [List.drop_eq_nil_of_le (by have := HI.out; have := HS.out.len; omega)] at this; exact (List.append_nil _).symm.trans this
      subst hu
      go_wp2
      go_ret
      exact ⟨_, rfl, H, by rw [← HM.out.1]; exact HH.out, HO.out⟩
    | succ gm =>
      have hin : i < n := by have := HI.out; omega
      have hi : i < R.length := by have := HI.out; have := HS.out.len; omega
      have c1 : decide ((i : Int) < (n : Int)) = true := decide_eq_true (by omega)
      have c1n : decide (i < n) = true := decide_eq_true hin
      have p1 := eq_true (show 0 ≤ (i : Int) by omega)
      have q1 := eq_true (show (i : Int) < (n : Int) by omega)
      have q1n := eq_true hin
      have hri : R[i]? = some R[i] := List.getElem?_eq_getElem hi
      obtain ⟨gs, Ab, cb, rfl, hx0, hx1, hx2, hx3⟩ := HS.out.cells (HO.out.repr (L' := X ++ ((gr, .cells #[.int .i64 room, .int .i64 drops, .int .i64 nxt, .slice A n c] 133 (0, 0)) :: (H ++ L))) [] (by classical exact List.perm_iff_count.2 (fun a => by simp only [List.count_append, List.count_cons, List.count_nil, List.append_assoc, List.cons_append, List.nil_append] <;> ac_rfl))) hri
      have hd : R.drop i = R[i] :: R.drop (i + 1) := List.drop_eq_getElem_cons hi
      have HF2 := HF.out
      rw [hd] at HF2
      unfold heldl at HF2
      clear hri hd HF
      generalize R[i] = r at hx0 hx1 hx2 hx3 HF2
      have W1 := w_of (x := (i : Int) + 1) (y := ((i + 1 : Nat) : Int)) (by omega) (by have := HS.out.le; omega)
      have u1 := W1.out.1; have u1b := W1.out.2
      by_cases h0 : r.st = 0
      · have s1 : (r.st == 0) = true := by rw [h0]; rfl
        rw [if_pos h0] at HF2
        have HF4 : Aside0 ((hl ++ [r.id]) ++ heldl (R.drop (i + 1)) = t) := ⟨by rw [← HF2]; simp⟩
        have s2 := eq_true h0
        clear HF2 hin hi h0
        go_wp2_with (first | ((with_reducible refine gate_dst (N := 5) rfl ?_); refine own_box HO.out ?hg (N := 5) ?hd (cs := #[.int .i64 0, .int .i64 0, .int .i64 0, .slice none 0 0]) (t := 135) ?hr ?_; (case hd => rfl); (case hg => rfl); (case hr => first | (go_simp; done) | (go_simp; rfl) | kernel_rfl); intro g5 w5 hO_; clear HO; have HO := Aside0.mk hO_; clear hO_) | ((with_reducible refine gate_store (p := 5) rfl ?_); refine own_wstore HO.out rfl (ty := 135) (x := .tmp 5) (y := .tmp 16) (cs := #[.int .i64 r.id, .int .i64 r.ow, .int .i64 r.st, .slice Ab r.b.length cb]) rfl (by rfl) (by rfl) (by (repeat (first | exact .head | apply Ext.tail))) (by kernel_rfl) (by rfl) (by kernel_rfl) ?_; intro wc hO_; clear HO; have HO := Aside0.mk hO_; clear hO_) | ((with_reducible refine gate_dst (N := 18) rfl ?_); refine own_load HO.out rfl (x := .tmp 17) (v := .int .i64 r.st) rfl (by rfl) (by (repeat (first | exact .head | apply Ext.tail))) hui (by rfl) (by rfl) ?_) | ((with_reducible refine gate_dst (N := 22) rfl ?_); refine own_load HO.out rfl (x := .tmp 21) (v := .int .i64 r.id) rfl (by rfl) (by (repeat (first | exact .head | apply Ext.tail))) hui (by rfl) (by rfl) ?_) | ((with_reducible refine gate_dst (N := 23) rfl ?_); refine own_lit HO.out rfl (N := 23) rfl (cs := #[.int .i64 r.id]) (t := 3) (n := 1) (m := 1) (by first | (go_simp; done) | (go_simp; rfl) | kernel_rfl) ?_; intro g23 w23 hO_; clear HO; have HO := Aside0.mk hO_; clear hO_) | ((with_reducible refine gate_dst (N := 24) rfl ?_); refine own_append (z := .int .i64 0) (size := 1) (bytes := 8) (R := H) (L := X ++ L) [(g23, .cells #[.int .i64 r.id] 3 (0, 0)), (g5, .cells #[.int .i64 r.id, .int .i64 r.ow, .int .i64 r.st, .slice Ab r.b.length cb] 135 (0, 0)), (gr, .cells #[.int .i64 room, .int .i64 drops, .int .i64 nxt, .slice (some ⟨gs, 0, none⟩) n c] 133 (0, 0))] HO.out rfl rfl huis (by kernel_rfl) rfl (by rfl) HH.out (by rfl) (HO.out.src huis .head 0 1 1 [.int .i64 r.id] rfl rfl (by simp [Value.oneCell'])) (by have := HM.out; show m + 1 ≤ 9223372036854775807; omega) (by have := HM.out; omega) ?_; intro v2 H2 wc hH2 hO_; obtain ⟨AH2, cH2, rfl⟩ := RowOf.shape hH2; have HH2 := Aside0.mk hH2; clear hH2; have hO_ : Own w0 wc ((gr, .cells #[.int .i64 room, .int .i64 drops, .int .i64 nxt, .slice (some ⟨gs, 0, none⟩) n c] 133 (0, 0)) :: (H2 ++ (X ++ L))) := hO_.drop.drop; clear HO; have HO := Aside0.mk hO_; clear hO_))
        go_roundg gm
        case measure => clear u1 u1b; omega
        case rel => exact ⟨i + 1, m + 1, cH2, AH2, H2, hl ++ [r.id], rfl, rfl, ⟨by clear u1 u1b; have := HI.out; omega⟩, HF4, ⟨by rw [List.map_append]; exact HH2.out⟩, HO⟩
      · have s1 : (r.st == 0) = false := beq_eq_false_iff_ne.mpr h0
        have s2 := eq_false h0
        rw [if_neg h0] at HF2
        have HF4 := Aside0.mk HF2
        clear HF2 hin hi h0
        go_wp2_with (first | ((with_reducible refine gate_dst (N := 5) rfl ?_); refine own_box HO.out ?hg (N := 5) ?hd (cs := #[.int .i64 0, .int .i64 0, .int .i64 0, .slice none 0 0]) (t := 135) ?hr ?_; (case hd => rfl); (case hg => rfl); (case hr => first | (go_simp; done) | (go_simp; rfl) | kernel_rfl); intro g5 w5 hO_; clear HO; have HO := Aside0.mk hO_; clear hO_) | ((with_reducible refine gate_store (p := 5) rfl ?_); refine own_wstore HO.out rfl (ty := 135) (x := .tmp 5) (y := .tmp 16) (cs := #[.int .i64 r.id, .int .i64 r.ow, .int .i64 r.st, .slice Ab r.b.length cb]) rfl (by rfl) (by rfl) (by (repeat (first | exact .head | apply Ext.tail))) (by kernel_rfl) (by rfl) (by kernel_rfl) ?_; intro wc hO_; clear HO; have HO := Aside0.mk hO_; clear hO_) | ((with_reducible refine gate_dst (N := 18) rfl ?_); refine own_load HO.out rfl (x := .tmp 17) (v := .int .i64 r.st) rfl (by rfl) (by (repeat (first | exact .head | apply Ext.tail))) hui (by rfl) (by rfl) ?_))
        go_roundg gm
        case measure => clear u1 u1b; omega
        case rel => exact ⟨i + 1, m, cH, AH, H, hl, rfl, rfl, ⟨by clear u1 u1b; have := HI.out; omega⟩, HF4, HH, ⟨HO.out.drop⟩⟩
theorem RSt.cellsB {X L : Hl} {A : Option Addr} {n c : Nat} {R : List Rc} (h : RSt X A n c R) {w0 W : World} (HO : Own w0 W (X ++ L)) {i : Nat} {r : Rc} (hi : R[i]? = some r) :
    ∃ gs Ab cb B J, A = some ⟨gs, 0, none⟩ ∧ W.cell? ⟨gs, i * 4, none⟩ = some (.int .i64 r.id) ∧ W.cell? ⟨gs, i * 4 + 1, none⟩ = some (.int .i64 r.ow) ∧ W.cell? ⟨gs, i * 4 + 2, none⟩ = some (.int .i64 r.st) ∧ W.cell? ⟨gs, i * 4 + 3, none⟩ = some (.slice Ab r.b.length cb) ∧
      RowOf 5 1 B (.slice Ab r.b.length cb) r.b.length (r.b.map (Value.int .u8)) ∧ X.Perm (B ++ J) := by
  obtain ⟨RR, T, V, rfl, hR, hB⟩ := h.ex
  have hil : i < R.length := by
    rcases Nat.lt_or_ge i R.length with h' | h'
    · exact h'
    · rw [List.getElem?_eq_none h'] at hi; cases hi
  have HO' : Own w0 W (RR ++ (T ++ L)) := by rw [← List.append_assoc]; exact HO
  obtain ⟨T1, B, T2, v, hT, hv, hrow, _⟩ := hB.at i r hi
  obtain ⟨Ab, cb, rfl⟩ := RowOf.shape hrow
  obtain ⟨gs, cap, hs, _, _, _, _, hcell⟩ := hR.cells HO' (by have := h.len; omega)
  simp only [Value.slice.injEq] at hs
  obtain ⟨rfl, _, rfl⟩ := hs
  obtain ⟨k0, k1, k2, k3⟩ := rcells_at R V i r _ hi hv
  refine ⟨gs, Ab, cb, B, RR ++ (T1 ++ T2), rfl, hcell _ _ k0, hcell _ _ k1, hcell _ _ k2, hcell _ _ k3, hrow, ?_⟩
  rw [hT]
  exact (by classical exact List.perm_iff_count.2 (fun a => by simp only [List.count_append, List.count_cons, List.count_nil, List.append_assoc, List.cons_append, List.nil_append] <;> ac_rfl))
/-- What all records are, told. -/
def rbytesl : List Rc → List Int
  | [] => []
  | r :: R => [IntKind.u8.wrap r.id, IntKind.u8.wrap r.ow, IntKind.u8.wrap r.st, IntKind.u8.wrap (r.b.length : Int)] ++ (r.b ++ rbytesl R)
theorem rbytesl_len : ∀ R : List Rc, (∀ r ∈ R, r.b.length ≤ 32) → (rbytesl R).length ≤ 36 * R.length
  | [], _ => Nat.le_refl _
  | r :: R, h => by
    have h1 := h r (List.mem_cons_self ..)
    have h2 := rbytesl_len R fun x hx => h x (List.mem_cons_of_mem _ hx)
    simp only [rbytesl, List.length_append, List.length_cons, List.length_nil]; omega
set_option maxHeartbeats 8000000 in
set_option maxRecDepth 100000 in
theorem rby_calls (w0 w : World) (L X : Hl) (gr : Nat) (room drops nxt : Int) (A : Option Addr) (n c : Nat) (R : List Rc) (hS : RSt X A n c R) (hO : Own w0 w ((gr, .cells #[.int .i64 room, .int .i64 drops, .int .i64 nxt, .slice A n c] 133 (0, 0)) :: (X ++ L))) : Calls Try.prog 47 #[.pointer (some ⟨gr, 0, none⟩)] w fun e w' => ∃ v', e = .returned v' ∧ ∃ H, RowOf 5 1 H v' (rbytesl R).length ((rbytesl R).map (Value.int .u8)) ∧ Own w0 w' ((gr, .cells #[.int .i64 room, .int .i64 drops, .int .i64 nxt, .slice A n c] 133 (0, 0)) :: (H ++ (X ++ L))) := by
  have hui := Try.underlying3
  have hul := Try.underlying32
  have hu8 := Try.underlying5
  have hur := Try.underlying135
  have hurs := Try.underlying131
  have HO : Aside0 (Own w0 w ((gr, .cells #[.int .i64 room, .int .i64 drops, .int .i64 nxt, .slice A n c] 133 (0, 0)) :: (X ++ L))) := ⟨hO⟩
  have HS := Aside0.mk hS
  clear hO hS
  obtain ⟨t, ht⟩ : ∃ t : List Int, rbytesl R = t := ⟨_, rfl⟩
  have HT : Aside0 (rbytesl R = t ∧ t.length ≤ 2304) := ⟨ht, by have := rbytesl_len R HS.out.bs; have := HS.out.len; have := HS.out.le; rw [← ht]; omega⟩
  rw [ht]
  clear ht
  go_enter Try.func47, Try.ntmps47
  go_wp2_with (first | ((with_reducible refine gate_dst (N := 11) rfl ?_); refine own_load HO.out rfl (x := .tmp 10) (v := .slice A n c) rfl (by rfl) (by (repeat (first | exact .head | apply Ext.tail))) hurs (by rfl) (by rfl) ?_))
  go_loopg [3, 13] n (fun gk v3 v13 w' => ∃ (i m cH : Nat) (AH : Option Addr) (H : Hl) (hl : List Int), v13 = .int .i64 (i : Int) ∧ v3 = .slice AH m cH ∧ Aside0 (i + gk = n) ∧ Aside0 (hl ++ rbytesl (R.drop i) = t) ∧ Aside0 (RowOf 5 1 H (.slice AH m cH) m (hl.map (Value.int .u8))) ∧ Aside0 (Own w0 w' ((gr, .cells #[.int .i64 room, .int .i64 drops, .int .i64 nxt, .slice A n c] 133 (0, 0)) :: (H ++ (X ++ L)))))
  case atStart => exact ⟨0, 0, 0, none, [], [], rfl, rfl, ⟨Nat.zero_add _⟩, ⟨HT.out.1⟩, ⟨RowOf.none _ _⟩, HO⟩
  case round =>
    clear HO
    obtain ⟨i, m, cH, AH, H, hl, rfl, rfl, HI, HF, HH, HO⟩ := hrel
    cases gk with
    | zero =>
      have c1 : decide ((i : Int) < (n : Int)) = false := decide_eq_false (by have := HI.out; omega)
      have c1n : decide (i < n) = false := decide_eq_false (by have := HI.out; omega)
      have hu : hl = t := by have := HF.out; rw [List.drop_eq_nil_of_le (by have := HI.out; have := HS.out.len; omega)] at this; exact (List.append_nil _).symm.trans this
      subst hu
      have hm : m = hl.length := by have h1 := row_len13 HH.out; rw [List.length_map] at h1; omega
      have HMM := Aside0.mk hm
      clear hm
      go_wp2
      go_ret
      exact ⟨_, rfl, H, by rw [← HMM.out]; exact HH.out, HO.out⟩
    | succ gm =>
      have hin : i < n := by have := HI.out; omega
      have hi : i < R.length := by have := HI.out; have := HS.out.len; omega
      have c1 : decide ((i : Int) < (n : Int)) = true := decide_eq_true (by omega)
      have c1n : decide (i < n) = true := decide_eq_true hin
      have p1 := eq_true (show 0 ≤ (i : Int) by omega)
      have q1 := eq_true (show (i : Int) < (n : Int) by omega)
      have q1n := eq_true hin
      have hri : R[i]? = some R[i] := List.getElem?_eq_getElem hi
      obtain ⟨gs, Ab, cb, B, J, rfl, hx0, hx1, hx2, hx3, hB, hperm⟩ := HS.out.cellsB (HO.out.repr (L' := X ++ ((gr, .cells #[.int .i64 room, .int .i64 drops, .int .i64 nxt, .slice A n c] 133 (0, 0)) :: (H ++ L))) [] (by classical exact List.perm_iff_count.2 (fun a => by simp only [List.count_append, List.count_cons, List.count_nil, List.append_assoc, List.cons_append, List.nil_append] <;> ac_rfl))) hri
      have HB := Aside0.mk hB
      have HP := Aside0.mk hperm
      have hd : R.drop i = R[i] :: R.drop (i + 1) := List.drop_eq_getElem_cons hi
      have HF2 := HF.out
      rw [hd] at HF2
      unfold rbytesl at HF2
      have HM : Aside0 (m + 4 + R[i].b.length ≤ 2304) := ⟨by have h1 := row_len13 HH.out; rw [List.length_map] at h1; have h2 := congrArg List.length HF2; simp only [List.length_append, List.length_cons, List.length_nil] at h2; have := HT.out.2; omega⟩
      have hO_ : Own w0 _ ((gr, .cells #[.int .i64 room, .int .i64 drops, .int .i64 nxt, .slice (some ⟨gs, 0, none⟩) n c] 133 (0, 0)) :: (H ++ (B ++ (J ++ L)))) := HO.out.perm (List.Perm.cons _ (List.Perm.append_left H (by rw [← List.append_assoc]; exact List.Perm.append_right L hperm)))
      clear HO; have HO := Aside0.mk hO_; clear hO_
      clear hri hd HF hB hperm
      generalize R[i] = r at hx0 hx1 hx2 hx3 HF2 HB HM
      have W1 := w_of (x := (i : Int) + 1) (y := ((i + 1 : Nat) : Int)) (by omega) (by have := HS.out.le; omega)
      have u1 := W1.out.1; have u1b := W1.out.2
      have HF4 : Aside0 ((hl ++ [IntKind.u8.wrap r.id, IntKind.u8.wrap r.ow, IntKind.u8.wrap r.st, IntKind.u8.wrap (r.b.length : Int)] ++ r.b) ++ rbytesl (R.drop (i + 1)) = t) := ⟨by rw [← HF2]; simp⟩
      clear HF2 hin hi
      go_wp2_with (first | ((with_reducible refine gate_dst (N := 5) rfl ?_); refine own_box HO.out ?hg (N := 5) ?hd (cs := #[.int .i64 0, .int .i64 0, .int .i64 0, .slice none 0 0]) (t := 135) ?hr ?_; (case hd => rfl); (case hg => rfl); (case hr => first | (go_simp; done) | (go_simp; rfl) | kernel_rfl); intro g5 w5 hO_; clear HO; have HO := Aside0.mk hO_; clear hO_) | ((with_reducible refine gate_store (p := 5) rfl ?_); refine own_wstore HO.out rfl (ty := 135) (x := .tmp 5) (y := .tmp 16) (cs := #[.int .i64 r.id, .int .i64 r.ow, .int .i64 r.st, .slice Ab r.b.length cb]) rfl (by rfl) (by rfl) (by (repeat (first | exact .head | apply Ext.tail))) (by kernel_rfl) (by rfl) (by kernel_rfl) ?_; intro wc hO_; clear HO; have HO := Aside0.mk hO_; clear hO_))
      refine start_ (n := 20) (S := fun W => Own w0 W [(g5, .cells #[.int .i64 r.id, .int .i64 r.ow, .int .i64 r.st, .slice Ab r.b.length cb] 135 (0, 0))]) (ds := []) #[false, false, false, false, false, false, false, false, false, false, false, false, false, false, false, false, false, false, false, false] (by kernel_rfl) rfl rfl (Own.drew (HO.out.repr (L' := [(g5, .cells #[.int .i64 r.id, .int .i64 r.ow, .int .i64 r.st, .slice Ab r.b.length cb] 135 (0, 0))]) ((gr, .cells #[.int .i64 room, .int .i64 drops, .int .i64 nxt, .slice (some ⟨gs, 0, none⟩) n c] 133 (0, 0)) :: (H ++ (B ++ (J ++ L)))) (by classical exact List.perm_iff_count.2 (fun a => by simp only [List.count_append, List.count_cons, List.count_nil, List.append_assoc, List.cons_append, List.nil_append] <;> ac_rfl)))) (fun hHeld => ?_)
      have HO_ := Aside0.mk HO.out.drew
      clear HO
      have HO := HO_
      clear HO_
      generalize World.drew _ = wr at HO hHeld ⊢
      refine Hp.pu_ 0 17 (Hp.up 20 1) ?_
      refine Hp.pu_ 1 18 (Hp.up 20 2) ?_
      refine take_ (i := 2) (N := some 19) (v := .int .i64 r.id) (a' := ?_) (Hp.up 20 3) rfl rfl (by kernel_rfl) (fun _ _ _ h => h) (own_yield1 (by rfl) (x := .tmp 18) rfl (by rfl) (.head) hui (by rfl) (by rfl)) hHeld ?_ ?_
      rotate_left
      · simp only [Act.put, List.setIfInBounds_toArray, List.set_cons_zero, List.set_cons_succ, i64_w, i32_w]
        rfl
      refine Hp.pu_ 3 20 (Hp.up 20 4) ?_
      refine Hp.pu_ 4 21 (Hp.up 20 5) ?_
      refine take_ (i := 5) (N := some 22) (v := .int .i64 r.ow) (a' := ?_) (Hp.up 20 6) rfl rfl (by kernel_rfl) (fun _ _ _ h => h) (own_yield1 (by rfl) (x := .tmp 21) rfl (by rfl) (.head) hui (by rfl) (by rfl)) hHeld ?_ ?_
      rotate_left
      · simp only [Act.put, List.setIfInBounds_toArray, List.set_cons_zero, List.set_cons_succ, i64_w, i32_w]
        rfl
      refine Hp.pu_ 6 23 (Hp.up 20 7) ?_
      refine Hp.pu_ 7 24 (Hp.up 20 8) ?_
      refine take_ (i := 8) (N := some 25) (v := .int .i64 r.st) (a' := ?_) (Hp.up 20 9) rfl rfl (by kernel_rfl) (fun _ _ _ h => h) (own_yield1 (by rfl) (x := .tmp 24) rfl (by rfl) (.head) hui (by rfl) (by rfl)) hHeld ?_ ?_
      rotate_left
      · simp only [Act.put, List.setIfInBounds_toArray, List.set_cons_zero, List.set_cons_succ, i64_w, i32_w]
        rfl
      refine Hp.pu_ 9 26 (Hp.up 20 10) ?_
      refine Hp.pu_ 10 27 (Hp.up 20 11) ?_
      refine take_ (i := 11) (N := some 28) (v := .slice Ab r.b.length cb) (a' := ?_) (Hp.up 20 12) rfl rfl (by kernel_rfl) (fun _ _ _ h => h) (own_yield1 (by rfl) (x := .tmp 27) rfl (by rfl) (.head) hul (by rfl) (by rfl)) hHeld ?_ ?_
      rotate_left
      · simp only [Act.put, List.setIfInBounds_toArray, List.set_cons_zero, List.set_cons_succ, i64_w, i32_w]
        rfl
      refine Hp.pu_ 12 29 (Hp.up 20 13) ?_
      refine Hp.pu_ 13 30 (Hp.up 20 14) ?_
      refine Hp.pu_ 16 33 #[true, true, true, true, true, true, true, true, true, true, true, true, true, true, false, false, true, false, false, false] ?_
      refine take_ (i := 17) (N := some 34) (v := .slice Ab r.b.length cb) (a' := ?_) #[true, true, true, true, true, true, true, true, true, true, true, true, true, true, false, false, true, true, false, false] rfl rfl (by kernel_rfl) (fun _ _ _ h => h) (own_yield1 (by rfl) (x := .tmp 33) rfl (by rfl) (.head) hul (by rfl) (by rfl)) hHeld ?_ ?_
      rotate_left
      · simp only [Act.put, List.setIfInBounds_toArray, List.set_cons_zero, List.set_cons_succ, i64_w, i32_w]
        rfl
      refine one_ (i := 14) (N := some 31) #[true, true, true, true, true, true, true, true, true, true, true, true, true, true, true, false, true, true, false, false] rfl rfl (by kernel_rfl) (by decide) (fun K hK => ?_)
      refine own_lit_k HO.out (by rfl) (N := 31) rfl (cs := #[.int .u8 (IntKind.u8.wrap r.id), .int .u8 (IntKind.u8.wrap r.ow), .int .u8 (IntKind.u8.wrap r.st), .int .u8 (IntKind.u8.wrap (r.b.length : Int))]) (t := 5) (n := 4) (m := 4) (by first | (go_simp; done) | (go_simp; rfl) | kernel_rfl) ?_
      intro g31 w31 hO_
      clear HO; have HO := Aside0.mk hO_; clear hO_
      refine hK.out _ _ (HO.out.repr (L' := [(g5, .cells #[.int .i64 r.id, .int .i64 r.ow, .int .i64 r.st, .slice Ab r.b.length cb] 135 (0, 0))]) ((g31, .cells #[.int .u8 (IntKind.u8.wrap r.id), .int .u8 (IntKind.u8.wrap r.ow), .int .u8 (IntKind.u8.wrap r.st), .int .u8 (IntKind.u8.wrap (r.b.length : Int))] 5 (0, 0)) :: (gr, .cells #[.int .i64 room, .int .i64 drops, .int .i64 nxt, .slice (some ⟨gs, 0, none⟩) n c] 133 (0, 0)) :: (H ++ (B ++ (J ++ L)))) (by classical exact List.perm_iff_count.2 (fun a => by simp only [List.count_append, List.count_cons, List.count_nil, List.append_assoc, List.cons_append, List.nil_append] <;> ac_rfl))) (fun hHeld => ?_)
      clear hK K
      refine norm_ (a' := ?_) ?_ ?_
      rotate_left
      · show Act.put _ (some 31) _ = _
        simp only [Act.put, List.setIfInBounds_toArray, List.set_cons_zero, List.set_cons_succ, i64_w, i32_w]
        rfl
      refine one_ (i := 15) (N := some 32) (Hp.up 20 18) rfl rfl (by kernel_rfl) (by decide) (fun K hK => ?_)
      refine own_append_k (z := .int .u8 0) (size := 1) (bytes := 1) (R := H) (L := B ++ (J ++ L)) [(g31, .cells #[.int .u8 (IntKind.u8.wrap r.id), .int .u8 (IntKind.u8.wrap r.ow), .int .u8 (IntKind.u8.wrap r.st), .int .u8 (IntKind.u8.wrap (r.b.length : Int))] 5 (0, 0)), (g5, .cells #[.int .i64 r.id, .int .i64 r.ow, .int .i64 r.st, .slice Ab r.b.length cb] 135 (0, 0)), (gr, .cells #[.int .i64 room, .int .i64 drops, .int .i64 nxt, .slice (some ⟨gs, 0, none⟩) n c] 133 (0, 0))] HO.out (by rfl) (N := 32) rfl rfl hul (by kernel_rfl) rfl (by rfl) HH.out (by rfl) (HO.out.src hul .head 0 4 4 [.int .u8 (IntKind.u8.wrap r.id), .int .u8 (IntKind.u8.wrap r.ow), .int .u8 (IntKind.u8.wrap r.st), .int .u8 (IntKind.u8.wrap (r.b.length : Int))] rfl rfl (by simp [Value.oneCell'])) (by have := HM.out; show m + 4 ≤ 9223372036854775807; omega) (by have := HM.out; omega) ?_
      intro v2 H2 wc hH2 hO_
      obtain ⟨AH2, cH2, rfl⟩ := RowOf.shape hH2
      have HH2 := Aside0.mk hH2
      clear hH2
      have hO_ : Own w0 wc ((g31, .cells #[.int .u8 (IntKind.u8.wrap r.id), .int .u8 (IntKind.u8.wrap r.ow), .int .u8 (IntKind.u8.wrap r.st), .int .u8 (IntKind.u8.wrap (r.b.length : Int))] 5 (0, 0)) :: (g5, .cells #[.int .i64 r.id, .int .i64 r.ow, .int .i64 r.st, .slice Ab r.b.length cb] 135 (0, 0)) :: (gr, .cells #[.int .i64 room, .int .i64 drops, .int .i64 nxt, .slice (some ⟨gs, 0, none⟩) n c] 133 (0, 0)) :: (H2 ++ (B ++ (J ++ L)))) := hO_
      clear HO; have HO := Aside0.mk hO_; clear hO_
      refine hK.out _ _ (HO.out.repr (L' := [(g5, .cells #[.int .i64 r.id, .int .i64 r.ow, .int .i64 r.st, .slice Ab r.b.length cb] 135 (0, 0))]) ((g31, .cells #[.int .u8 (IntKind.u8.wrap r.id), .int .u8 (IntKind.u8.wrap r.ow), .int .u8 (IntKind.u8.wrap r.st), .int .u8 (IntKind.u8.wrap (r.b.length : Int))] 5 (0, 0)) :: (gr, .cells #[.int .i64 room, .int .i64 drops, .int .i64 nxt, .slice (some ⟨gs, 0, none⟩) n c] 133 (0, 0)) :: (H2 ++ (B ++ (J ++ L)))) (by classical exact List.perm_iff_count.2 (fun a => by simp only [List.count_append, List.count_cons, List.count_nil, List.append_assoc, List.cons_append, List.nil_append] <;> ac_rfl))) (fun hHeld => ?_)
      clear hK K
      refine norm_ (a' := ?_) ?_ ?_
      rotate_left
      · show Act.put _ (some 32) _ = _
        simp only [Act.put, List.setIfInBounds_toArray, List.set_cons_zero, List.set_cons_succ, i64_w, i32_w]
        rfl
      refine one_ (i := 18) (N := some 35) (Hp.up 20 19) rfl rfl (by kernel_rfl) (by decide) (fun K hK => ?_)
      refine own_append_k (z := .int .u8 0) (size := 1) (bytes := 1) (R := H2) (L := B ++ (J ++ L)) [(g31, .cells #[.int .u8 (IntKind.u8.wrap r.id), .int .u8 (IntKind.u8.wrap r.ow), .int .u8 (IntKind.u8.wrap r.st), .int .u8 (IntKind.u8.wrap (r.b.length : Int))] 5 (0, 0)), (g5, .cells #[.int .i64 r.id, .int .i64 r.ow, .int .i64 r.st, .slice Ab r.b.length cb] 135 (0, 0)), (gr, .cells #[.int .i64 room, .int .i64 drops, .int .i64 nxt, .slice (some ⟨gs, 0, none⟩) n c] 133 (0, 0))] HO.out (by rfl) (N := 35) rfl rfl hul (by kernel_rfl) rfl (by rfl) HH2.out (by rfl) (RowOf.src HB.out (HO.out.repr (L' := B ++ ((g31, .cells #[.int .u8 (IntKind.u8.wrap r.id), .int .u8 (IntKind.u8.wrap r.ow), .int .u8 (IntKind.u8.wrap r.st), .int .u8 (IntKind.u8.wrap (r.b.length : Int))] 5 (0, 0)) :: (g5, .cells #[.int .i64 r.id, .int .i64 r.ow, .int .i64 r.st, .slice Ab r.b.length cb] 135 (0, 0)) :: (gr, .cells #[.int .i64 room, .int .i64 drops, .int .i64 nxt, .slice (some ⟨gs, 0, none⟩) n c] 133 (0, 0)) :: (H2 ++ (J ++ L)))) [] (by classical exact List.perm_iff_count.2 (fun a => by simp only [List.count_append, List.count_cons, List.count_nil, List.append_assoc, List.cons_append, List.nil_append] <;> ac_rfl))) hul (u8s_one _)) (by have := HM.out; show m + 4 + r.b.length ≤ 9223372036854775807; omega) (by have := HM.out; omega) ?_
      intro v2 H3 wc hH3 hO_
      obtain ⟨AH3, cH3, rfl⟩ := RowOf.shape hH3
      have HH3 := Aside0.mk hH3
      clear hH3
      have hO_ : Own w0 wc ((g31, .cells #[.int .u8 (IntKind.u8.wrap r.id), .int .u8 (IntKind.u8.wrap r.ow), .int .u8 (IntKind.u8.wrap r.st), .int .u8 (IntKind.u8.wrap (r.b.length : Int))] 5 (0, 0)) :: (g5, .cells #[.int .i64 r.id, .int .i64 r.ow, .int .i64 r.st, .slice Ab r.b.length cb] 135 (0, 0)) :: (gr, .cells #[.int .i64 room, .int .i64 drops, .int .i64 nxt, .slice (some ⟨gs, 0, none⟩) n c] 133 (0, 0)) :: (H3 ++ (B ++ (J ++ L)))) := hO_
      clear HO; have HO := Aside0.mk hO_; clear hO_
      refine hK.out _ _ (HO.out.repr (L' := [(g5, .cells #[.int .i64 r.id, .int .i64 r.ow, .int .i64 r.st, .slice Ab r.b.length cb] 135 (0, 0))]) ((g31, .cells #[.int .u8 (IntKind.u8.wrap r.id), .int .u8 (IntKind.u8.wrap r.ow), .int .u8 (IntKind.u8.wrap r.st), .int .u8 (IntKind.u8.wrap (r.b.length : Int))] 5 (0, 0)) :: (gr, .cells #[.int .i64 room, .int .i64 drops, .int .i64 nxt, .slice (some ⟨gs, 0, none⟩) n c] 133 (0, 0)) :: (H3 ++ (B ++ (J ++ L)))) (by classical exact List.perm_iff_count.2 (fun a => by simp only [List.count_append, List.count_cons, List.count_nil, List.append_assoc, List.cons_append, List.nil_append] <;> ac_rfl))) (fun hHeld => ?_)
      clear hK K
      refine norm_ (a' := ?_) ?_ ?_
      rotate_left
      · show Act.put _ (some 35) _ = _
        simp only [Act.put, List.setIfInBounds_toArray, List.set_cons_zero, List.set_cons_succ, i64_w, i32_w]
        rfl
      refine Hp.pu_ 19 3 (Hp.up 20 20) ?_
      refine done_ (by kernel_rfl) ?_
      clear hHeld
      go_wp2
      go_roundg gm
      case measure => clear u1 u1b; omega
      case rel => exact ⟨i + 1, m + 4 + r.b.length, cH3, AH3, H3, _, rfl, rfl, ⟨by clear u1 u1b; have := HI.out; omega⟩, HF4, ⟨by rw [List.map_append, List.map_append]; exact HH3.out⟩, ⟨HO.out.drop.drop.perm (List.Perm.cons _ (List.Perm.append_left H3 (by rw [← List.append_assoc]; exact List.Perm.append_right L HP.out.symm)))⟩⟩
end Go.Proofs.Rg
