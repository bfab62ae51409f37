/- The document's ring (halberdref13.Ring): Drain; what is told on both sides, held against each other. -/
import Derived.Test.YtgkdbhkbkpfbpaaRO
set_option linter.unusedVariables false
set_option linter.unusedSimpArgs false
namespace Go.Proofs.Rg
open Go.RowKit Go.Proofs.Ev Go.Proofs.Hp Go.Proofs.Ar Go.Proofs.YtgkdbhkbkpfbpaaW.PrintWords Go.Proofs.YtgkdbhkbkpfbpaaW.PrintLast Go.Proofs.YtgkdbhkbkpfbpaaW.PrintMore
attribute [local go_sem] max2_int min2_int max_two min_two max_three min_three max_four min_four eql_slice_nil
theorem dcells_set3 : ∀ (R : List Rc) (G : List Bool) (V : List Value) (i : Nat) (g : Bool), (dcells R G V).set (i * 4 + 3) (.bool g) = dcells R (G.set i g) V
  | [], _, _, _, _ => by simp [dcells]
  | _ :: _, [], _, i, _ => by simp [dcells]
  | _ :: _, _ :: _, [], i, _ => by cases i <;> simp [dcells]
  | q :: R, a :: G, u :: V, 0, g => rfl
  | q :: R, a :: G, u :: V, i + 1, g => by
    have ih := dcells_set3 R G V i g
    have e : (i + 1) * 4 + 3 = (i * 4 + 3) + 1 + 1 + 1 + 1 := by omega
    rw [e]
    simp only [dcells, List.set_cons_succ, ih]
theorem dcells_len : ∀ (R : List Rc) (G : List Bool) (V : List Value), G.length = R.length → V.length = R.length → (dcells R G V).length = R.length * 4
  | [], [], [], _, _ => rfl
  | q :: R, a :: G, u :: V, h1, h2 => by simp only [dcells, List.length_cons, dcells_len R G V (by simpa using h1) (by simpa using h2)]; omega
  | q :: R, _, [], _, h => by cases h
  | q :: R, [], _, h, _ => by cases h
  | [], _, u :: V, _, h => by cases h
  | [], a :: G, _, h, _ => by cases h
/-- The first i are gone. -/
def marks (G : List Bool) (i : Nat) : List Bool := List.replicate i true ++ G.drop i
theorem marks_zero (G : List Bool) : marks G 0 = G := rfl
theorem marks_len {G : List Bool} {i : Nat} (h : i ≤ G.length) : (marks G i).length = G.length := by simp [marks]; omega
theorem marks_at {G : List Bool} {i : Nat} {g : Bool} (h : G[i]? = some g) : (marks G i)[i]? = some g := by
  unfold marks
  rw [List.getElem?_append_right (by simp)]
  simpa using h
theorem marks_succ {G : List Bool} {i : Nat} (h : i < G.length) : (marks G i).set i true = marks G (i + 1) := by
  unfold marks
  rw [List.set_append_right _ _ (by simp), List.drop_eq_getElem_cons h]
  simp only [List.length_replicate, Nat.sub_self, List.set_cons_zero, List.replicate_succ', List.append_assoc, List.cons_append, List.nil_append]
/-- How many records in front are not held. -/
def dgone : List Rc → List Bool → Nat
  | r :: R, g :: G => if (!g && r.st == 0) = true then 0 else dgone R G + 1
  | _, _ => 0
theorem dgone_le : ∀ (R : List Rc) (G : List Bool), dgone R G ≤ R.length
  | [], _ => by simp [dgone]
  | _ :: _, [] => by simp [dgone]
  | r :: R, g :: G => by
    have := dgone_le R G
    unfold dgone
    split <;> simp only [List.length_cons] <;> omega
theorem dgone_drop {R : List Rc} {G : List Bool} {i : Nat} (h1 : i < R.length) (h2 : i < G.length) : dgone (R.drop i) (G.drop i) = if (!G[i] && R[i].st == 0) = true then 0 else dgone (R.drop (i + 1)) (G.drop (i + 1)) + 1 := by
  rw [List.drop_eq_getElem_cons h1, List.drop_eq_getElem_cons h2]
  rfl
def lv : List Value → List Bool → List Value
  | r :: R, g :: G => if g = true then lv R G else r :: lv R G
  | _, _ => []
theorem live_snoc : ∀ (R : List Rc) (G : List Bool) (r : Rc) (g : Bool), G.length = R.length → live (R ++ [r]) (G ++ [g]) = live R G ++ (if g = true then [] else [r])
  | [], [], r, g, _ => by simp only [List.nil_append, live]
  | q :: R, a :: G, r, g, h => by
    have ih := live_snoc R G r g (by simpa using h)
    simp only [List.cons_append, live, ih]
    split <;> simp
  | q :: R, [], _, _, h => by cases h
  | [], v :: V, _, _, h => by cases h
theorem lv_snoc : ∀ (R : List Value) (G : List Bool) (r : Value) (g : Bool), G.length = R.length → lv (R ++ [r]) (G ++ [g]) = lv R G ++ (if g = true then [] else [r])
  | [], [], r, g, _ => by simp only [List.nil_append, lv]
  | q :: R, a :: G, r, g, h => by
    have ih := lv_snoc R G r g (by simpa using h)
    simp only [List.cons_append, lv, ih]
    split <;> simp
  | q :: R, [], _, _, h => by cases h
  | [], v :: V, _, _, h => by cases h
theorem lv_len : ∀ (R : List Rc) (G : List Bool) (V : List Value), V.length = R.length → (lv V G).length = (live R G).length
  | [], _, [], _ => by simp [live, lv]
  | q :: R, [], u :: V, _ => by simp [live, lv]
  | q :: R, a :: G, u :: V, h => by
    have ih := lv_len R G V (by simpa using h)
    simp only [live, lv]
    split <;> simp [ih]
  | q :: R, _, [], h => by cases h
  | [], _, u :: V, h => by cases h
theorem live_take : ∀ (R : List Rc) (G : List Bool), live (R.take (dgone R G)) (G.take (dgone R G)) = (live R G).take (gone (live R G))
  | [], _ => by simp [live, dgone]
  | _ :: _, [] => by simp [live, dgone]
  | r :: R, g :: G => by
    have ih := live_take R G
    cases g with
    | true => simp [dgone, live, ih]
    | false =>
      by_cases h : r.st = 0
      · simp [dgone, live, gone, h]
      · simp [dgone, live, gone, h, ih]
theorem live_marks : ∀ (R : List Rc) (G : List Bool), live R (marks G (dgone R G)) = (live R G).drop (gone (live R G))
  | [], _ => by simp [live]
  | _ :: _, [] => by simp [live, dgone, marks]
  | r :: R, g :: G => by
    have ih := live_marks R G
    unfold marks at ih ⊢
    cases g with
    | true => simp [dgone, live, ih, List.replicate_succ]
    | false =>
      by_cases h : r.st = 0
      · simp [dgone, live, gone, h]
      · simp [dgone, live, gone, h, ih, List.replicate_succ]
theorem DSt.ofRow {gs c n : Nat} {cr : Array Value} {R : List Rc} {G : List Bool} {V : List Value} {T : Hl} (hc : n ≤ c) (hm : c ≤ maxLen) (hcs : cr.size = c * 4) (htk : cr.toList.take (n * 4) = dcells R G V) (hB : BSt T V R) (hl : R.length = n) (hg : G.length = n) (hle : n ≤ 80) (hb : ∀ r ∈ R, r.b.length ≤ 32)
    (hi : ∀ (i : Nat) r, R[i]? = some r → r.id = (i : Int)) : DSt ([(gs, .cells cr 78 (0, 0))] ++ T) (some ⟨gs, 0, none⟩) n c R G :=
  ⟨⟨_, T, V, rfl, ⟨by rw [dcells_len _ _ _ (by rw [hl, hg]) hB.len, hl], .inr ⟨gs, c, cr, rfl, rfl, hc, hm, hcs, htk⟩⟩, hB⟩, hl, hg, hle, hb, hi⟩
theorem cell_of_take {cr : Array Value} {m j : Nat} {xs : List Value} {v : Value} (h : cr.toList.take m = xs) (hx : xs[j]? = some v) : cr[j]? = some v := by
  rw [← h, List.getElem?_take] at hx
  split at hx
  · rw [← Array.getElem?_toList]; exact hx
  · cases hx
/-- Each value is a row of its record's bytes, in blocks of T. -/
structure VRows (T : Hl) (V : List Value) (R : List Rc) : Prop where
  len : V.length = R.length
  row : ∀ (j : Nat) r, R[j]? = some r → ∃ v B J, V[j]? = some v ∧ RowOf 5 1 B v r.b.length (r.b.map (Value.int .u8)) ∧ T.Perm (B ++ J)
theorem BSt.vrows {T : Hl} {V : List Value} {R : List Rc} (h : BSt T V R) : VRows T V R :=
  ⟨h.len, fun j r hr => by
    obtain ⟨T1, B, T2, v, rfl, hv, hrow, _⟩ := h.at j r hr
    exact ⟨v, B, T1 ++ T2, hv, hrow, by rw [← List.append_assoc, ← List.append_assoc]; exact List.Perm.append_right _ List.perm_append_comm⟩⟩
theorem VRows.take {T : Hl} {V : List Value} {R : List Rc} (h : VRows T V R) (k : Nat) : VRows T (V.take k) (R.take k) :=
  ⟨by simp [h.len], fun j r hr => by
    rw [List.getElem?_take] at hr ⊢
    split at hr
    · rename_i hj
      rw [if_pos hj]
      exact h.row j r hr
    · cases hr⟩
theorem VRows.live {T : Hl} : ∀ {V : List Value} {R : List Rc} (G : List Bool), VRows T V R → VRows T (lv V G) (live R G)
  | [], [], _, h => ⟨by simp [lv, Rg.live], fun j r hr => by simp [Rg.live] at hr⟩
  | u :: V, q :: R, [], h => ⟨by simp [lv, Rg.live], fun j r hr => by simp [Rg.live] at hr⟩
  | u :: V, q :: R, g :: G, h => by
    have hn : VRows T V R := ⟨by simpa using h.len, fun j r hr => by simpa using h.row (j + 1) r (by simpa using hr)⟩
    have ih := VRows.live G hn
    cases g with
    | true => simpa [lv, Rg.live] using ih
    | false =>
      refine ⟨by simp [lv, Rg.live, ih.len], fun j r hr => ?_⟩
      cases j with
      | zero =>
        have := h.row 0 r (by simpa [Rg.live] using hr)
        simpa [lv] using this
      | succ j =>
        have := ih.row j r (by simpa [Rg.live] using hr)
        simpa [lv] using this
  | [], q :: R, _, h => by cases h.len
  | u :: V, [], _, h => by cases h.len
theorem VRows.perm {T T' : Hl} {V : List Value} {R : List Rc} (h : VRows T V R) (J : Hl) (p : T'.Perm (T ++ J)) : VRows T' V R :=
  ⟨h.len, fun j r hr => by
    obtain ⟨v, B, K, h1, h2, h3⟩ := h.row j r hr
    exact ⟨v, B, K ++ J, h1, h2, p.trans (by rw [← List.append_assoc]; exact List.Perm.append_right _ h3)⟩⟩
/-- The told ones. -/
def tl : List Rc → List Rc
  | r :: R => if r.st = 1 then r :: tl R else tl R
  | [] => []
theorem tl_len : ∀ R : List Rc, (tl R).length = ntold R
  | [] => rfl
  | r :: R => by
    have := tl_len R
    unfold tl ntold
    split <;> simp [this]
theorem tl_mem : ∀ (R : List Rc), ∀ r ∈ tl R, r ∈ R
  | [], r, h => by simp [tl] at h
  | a :: R, r, h => by
    unfold tl at h
    split at h
    · rcases List.mem_cons.1 h with rfl | h
      · exact List.mem_cons_self ..
      · exact List.mem_cons_of_mem _ (tl_mem R r h)
    · exact List.mem_cons_of_mem _ (tl_mem R r h)
theorem VRows.told {T : Hl} : ∀ {V : List Value} {R : List Rc} (h : VRows T V R) (j : Nat) (r : Rc), (tl R)[j]? = some r → ∃ v B J, (tolds R V)[j * 2]? = some (.int .i64 r.ow) ∧ (tolds R V)[j * 2 + 1]? = some v ∧ RowOf 5 1 B v r.b.length (r.b.map (Value.int .u8)) ∧ T.Perm (B ++ J)
  | [], [], h, j, r, hr => by simp [tl] at hr
  | u :: V, q :: R, h, j, r, hr => by
    have hn : VRows T V R := ⟨by simpa using h.len, fun j r hr => by simpa using h.row (j + 1) r (by simpa using hr)⟩
    unfold tl at hr
    unfold tolds
    split at hr
    · rename_i h1
      rw [if_pos h1]
      cases j with
      | zero =>
        obtain ⟨v, B, J, k1, k2, k3⟩ := h.row 0 q rfl
        simp only [List.getElem?_cons_zero, Option.some.injEq] at hr k1
        subst hr k1
        exact ⟨_, B, J, rfl, rfl, k2, k3⟩
      | succ j =>
        obtain ⟨v, B, J, k1, k2, k3⟩ := VRows.told hn j r (by simpa using hr)
        refine ⟨v, B, J, ?_, ?_, k3⟩
        · have e : (j + 1) * 2 = j * 2 + 1 + 1 := by omega
          rw [e]; simpa using k1
        · have e : (j + 1) * 2 + 1 = (j * 2 + 1) + 1 + 1 := by omega
          rw [e]; simpa using k2
    · rename_i h1
      rw [if_neg h1]
      exact VRows.told hn j r hr
  | [], q :: R, h, _, _, _ => by cases h.len
  | u :: V, [], h, _, _, _ => by cases h.len
set_option maxHeartbeats 8000000 in
set_option maxRecDepth 100000 in
theorem ddrain_row (w0 w : World) (L T : Hl) (gw : Nat) (room drops : Int) (gs n c : Nat) (R : List Rc) (G : List Bool) (V : List Value) (cr : Array Value) (hn : 0 < n) (hc : n ≤ c) (hm : c ≤ maxLen) (hcs : cr.size = c * 4) (htk : cr.toList.take (n * 4) = dcells R G V) (hB : BSt T V R) (hl : R.length = n) (hg : G.length = n) (hle : n ≤ 80) (hb : ∀ r ∈ R, r.b.length ≤ 32)
    (hid : ∀ (i : Nat) r, R[i]? = some r → r.id = (i : Int)) (k1 : Nat) (hk1 : dgone R G = k1) (hO : Own w0 w ((gw, .cells #[.int .i64 room, .int .i64 drops, .slice (some ⟨gs, 0, none⟩) n c] 72 (0, 0)) :: (gs, .cells cr 78 (0, 0)) :: (T ++ L))) : Calls Try.prog 50 #[.pointer (some ⟨gw, 0, none⟩)] w fun e w' =>
    ∃ v', e = .returned v' ∧ ∃ AR cr2, cr2.size = c * 4 ∧ cr2.toList.take (n * 4) = dcells R (marks G k1) V ∧ RowOf 51 2 AR v' (ntold (live (R.take k1) (G.take k1))) (tolds (live (R.take k1) (G.take k1)) (lv (V.take k1) (G.take k1))) ∧ Own w0 w' ((gw, .cells #[.int .i64 room, .int .i64 drops, .slice (some ⟨gs, 0, none⟩) n c] 72 (0, 0)) :: (gs, .cells cr2 78 (0, 0)) :: (AR ++ (T ++ L))) := by
  have hui := Try.underlying3
  have hul := Try.underlying32
  have hu8 := Try.underlying5
  have hub := Try.underlying4
  have hur := Try.underlying78
  have hurs := Try.underlying70
  have hua := Try.underlying51
  have huas := Try.underlying47
  have HN := Aside0.mk (And.intro hn (And.intro hc (And.intro hm hle)))
  have HB := Aside0.mk hB
  have HL := Aside0.mk (And.intro hl hg)
  have HBB := Aside0.mk hb
  have HID := Aside0.mk hid
  have HK1 := Aside0.mk hk1
  have HO : Aside0 (Own w0 w ((gw, .cells #[.int .i64 room, .int .i64 drops, .slice (some ⟨gs, 0, none⟩) n c] 72 (0, 0)) :: (gs, .cells cr 78 (0, 0)) :: ([] ++ (T ++ L)))) := ⟨hO⟩
  have HCR := Aside0.mk (And.intro hcs htk)
  clear hn hc hm hcs htk hB hl hg hle hb hid hO hk1
  go_enter Try.func50, Try.ntmps50
  go_wp2
  go_loopg [3, 4] n (fun gk v3 v4 w' => ∃ (i k : Nat) (AR : Hl) (Ao : Option Addr) (co : Nat) (cr : Array Value), v4 = .int .i64 (i : Int) ∧ v3 = .slice Ao k co ∧ Aside0 (i + gk = n) ∧ Aside0 (i + dgone (R.drop i) (G.drop i) = k1) ∧ Aside0 (k = ntold (live (R.take i) (G.take i)) ∧ k ≤ 80) ∧ Aside0 (RowOf 51 2 AR (.slice Ao k co) k (tolds (live (R.take i) (G.take i)) (lv (V.take i) (G.take i)))) ∧ Aside0 (cr.size = c * 4 ∧ cr.toList.take (n * 4) = dcells R (marks G i) V) ∧ Aside0 (Own w0 w' ((gw, .cells #[.int .i64 room, .int .i64 drops, .slice (some ⟨gs, 0, none⟩) n c] 72 (0, 0)) :: (gs, .cells cr 78 (0, 0)) :: (AR ++ (T ++ L)))))
  case atStart => exact ⟨0, 0, [], none, 0, cr, rfl, rfl, ⟨Nat.zero_add _⟩, ⟨by rw [Nat.zero_add]; exact HK1.out⟩, ⟨by simp [ntold, live]⟩, ⟨by simp only [List.take_zero, live, lv, tolds]; exact RowOf.none _ _⟩, ⟨by rw [marks_zero]; exact HCR.out⟩, HO⟩
  case round =>
    clear HO HCR
    obtain ⟨i, k, AR, Ao, co, cr, rfl, rfl, HI, HF, HK, HAR, HCR, HO⟩ := hrel
    cases gk with
    | zero =>
      have c1 : decide ((i : Int) < (n : Int)) = false := decide_eq_false (by have := HI.out; omega)
      have c1n : decide (i < n) = false := decide_eq_false (by have := HI.out; omega)
      obtain rfl : i = k1 := by have := HF.out; rw [List.drop_eq_nil_of_le (by have := HI.out; have := HL.out.1; omega)] at this; exact this
      go_wp2_with (first | ((with_reducible refine gate_dst (N := 9) rfl ?_); refine own_load HO.out rfl (x := .tmp 8) (v := .slice (some ⟨gs, 0, none⟩) n c) rfl (by rfl) (by (repeat (first | exact .head | apply Ext.tail))) hurs (by rfl) (by rfl) ?_))
      go_ret
      exact ⟨_, rfl, AR, cr, HCR.out.1, HCR.out.2, by rw [← HK.out.1]; exact HAR.out, HO.out⟩
    | succ m =>
      have hin : i < n := by have := HI.out; omega
      have hi : i < R.length := by have := HI.out; have := HL.out; omega
      have hi2 : i < G.length := by have := HI.out; have := HL.out; omega
      have c1 : decide ((i : Int) < (n : Int)) = true := decide_eq_true (by omega)
      have c1n : decide (i < n) = true := decide_eq_true hin
      have p1 := eq_true (show 0 ≤ (i : Int) by omega)
      have q1 := eq_true (show (i : Int) < (n : Int) by omega)
      have q1n := eq_true hin
      have HST := Aside0.mk (DSt.ofRow (gs := gs) HN.out.2.1 HN.out.2.2.1 HCR.out.1 HCR.out.2 HB.out HL.out.1 (by rw [marks_len (by omega)]; exact HL.out.2) HN.out.2.2.2 HBB.out HID.out)
      have HJ : Aside0 (i * 4 + 3 < cr.size) := ⟨by rw [HCR.out.1]; have := HN.out.2.1; omega⟩
      obtain ⟨T1, B, T2, u, _, hVi, hrow, _⟩ := HB.out.at i R[i] (List.getElem?_eq_getElem hi)
      obtain ⟨Ab, cb, rfl⟩ := RowOf.shape hrow
      have hMG := marks_at (List.getElem?_eq_getElem hi2)
      obtain ⟨k0, k1_, k2, k3⟩ := dcells_at R (marks G i) V i R[i] G[i] _ (List.getElem?_eq_getElem hi) hMG hVi
      have HC0 := Aside0.mk (cell_of_take HCR.out.2 k0)
      have HC1 := Aside0.mk (cell_of_take HCR.out.2 k1_)
      have HC2 := Aside0.mk (cell_of_take HCR.out.2 k2)
      have HC3 := Aside0.mk (cell_of_take HCR.out.2 k3)
      have HMG := Aside0.mk hMG
      have HR : Aside0 (R[i]? = some R[i]) := ⟨List.getElem?_eq_getElem hi⟩
      have hset : (cr.setIfInBounds (i * 4 + 3) (.bool true)).size = c * 4 ∧ (cr.setIfInBounds (i * 4 + 3) (.bool true)).toList.take (n * 4) = dcells R (marks G (i + 1)) V := by
        refine ⟨by rw [Array.size_setIfInBounds]; exact HCR.out.1, ?_⟩
        have h1 := take_set (v := .bool true) HCR.out.2 (j := i * 4 + 3) (by omega)
        rw [dcells_set3, marks_succ hi2] at h1
        exact h1
      have HSET := Aside0.mk hset
      have ht : R.take (i + 1) = R.take i ++ [R[i]] := List.take_succ_eq_append_getElem hi
      have htg : G.take (i + 1) = G.take i ++ [G[i]] := List.take_succ_eq_append_getElem hi2
      have hvt : V.take (i + 1) = V.take i ++ [.slice Ab R[i].b.length cb] := by rw [List.take_add_one, hVi]; rfl
      have hgl : (G.take i).length = (R.take i).length := by rw [List.length_take, List.length_take, HL.out.1, HL.out.2]
      have hgv : (G.take i).length = (V.take i).length := by rw [List.length_take, List.length_take, HB.out.len, HL.out.1, HL.out.2]
      have hlv := lv_len (R.take i) (G.take i) (V.take i) (by rw [← hgv, hgl])
      have hsn := live_snoc (R.take i) (G.take i) R[i] G[i] hgl
      have hsv := lv_snoc (V.take i) (G.take i) (.slice Ab R[i].b.length cb) G[i] hgv
      rw [← ht, ← htg] at hsn
      rw [← hvt, ← htg] at hsv
      have HTS := Aside0.mk (tolds_snoc (live (R.take i) (G.take i)) (lv (V.take i) (G.take i)) R[i] (.slice Ab R[i].b.length cb) hlv)
      have HTN := Aside0.mk (ntold_snoc (live (R.take i) (G.take i)) R[i])
      have HNL : Aside0 (ntold (live (R.take (i + 1)) (G.take (i + 1))) ≤ 80) := ⟨by have := ntold_le (live (R.take (i + 1)) (G.take (i + 1))); have := live_len (R.take (i + 1)) (G.take (i + 1)); rw [List.length_take] at this; have := HN.out.2.2.2; have := HL.out.1; omega⟩
      have HF2 := HF.out
      rw [dgone_drop hi hi2] at HF2
      have HSN := Aside0.mk hsn
      have HSV := Aside0.mk hsv
      clear hMG k0 k1_ k2 k3 hset ht htg hvt hgl hgv hlv hsn hsv HF hrow hVi
      generalize R[i] = r at HC0 HC1 HC2 HC3 HR HTS HTN HF2 HSN HSV HMG
      generalize G[i] = g at HC0 HC1 HC2 HC3 HF2 HSN HSV HMG
      have W1 := w_of (x := (i : Int) + 1) (y := ((i + 1 : Nat) : Int)) (by omega) (by have := HN.out.2.2.2; omega)
      by_cases h0 : (!g && r.st == 0) = true
      · have HT2 := Aside0.mk h0
        obtain rfl : i = k1 := by rw [if_pos h0] at HF2; exact HF2
        clear HF2 hin hi hi2 h0
        go_wp2_with (first | ((with_reducible refine gate_dst (N := 9) rfl ?_); refine own_load HO.out rfl (x := .tmp 8) (v := .slice (some ⟨gs, 0, none⟩) n c) rfl (by rfl) (by (repeat (first | exact .head | apply Ext.tail))) hurs (by rfl) (by rfl) ?_) | ((with_reducible refine gate_callee (f := 51) rfl ?_); (with_reducible refine gate_dst (N := 16) rfl ?_); refine goesL_ (some 16) rfl rfl Try.func51 (by kernel_rfl) rfl #[.pointer (some ⟨gw, 0, none⟩), .int .i64 (i : Int)] rfl (by (try simp only [List.map_toArray, List.map_cons, List.map_nil]); first | done | rfl) ?_; (with_reducible refine (dhas_in w0 _ (AR ++ L) ([(gs, .cells cr 78 (0, 0))] ++ T) gw room drops (some ⟨gs, 0, none⟩) n c R (marks G i) HST.out i r g true HR.out HMG.out HT2.out (HO.out.repr (L' := (gw, .cells #[.int .i64 room, .int .i64 drops, .slice (some ⟨gs, 0, none⟩) n c] 72 (0, 0)) :: (([(gs, .cells cr 78 (0, 0))] ++ T) ++ (AR ++ L))) [] (by classical exact List.perm_iff_count.2 (fun a => by simp only [List.count_append, List.count_cons, List.count_nil, List.append_assoc, List.cons_append, List.nil_append] <;> ac_rfl)))).mono ?_); rintro e wx ⟨rfl, hO_⟩; refine ⟨_, rfl, ?_⟩; have hO_ := hO_.repr (L' := ((gw, .cells #[.int .i64 room, .int .i64 drops, .slice (some ⟨gs, 0, none⟩) n c] 72 (0, 0)) :: (gs, .cells cr 78 (0, 0)) :: (AR ++ (T ++ L)))) [] (by classical exact List.perm_iff_count.2 (fun a => by simp only [List.count_append, List.count_cons, List.count_nil, List.append_assoc, List.cons_append, List.nil_append] <;> ac_rfl)); clear HO; have HO := Aside0.mk hO_; clear hO_; have hk2 : World.cell? _ ⟨gw, 2, none⟩ = some (.slice (some ⟨gs, 0, none⟩) n c) := (HO.out.cell .head 2).trans rfl; have hx1 : World.cell? _ ⟨gs, i * 4 + 1, none⟩ = some (.int .i64 r.st) := (HO.out.cell (.tail .head) (i * 4 + 1)).trans HC1.out; have hx3 : World.cell? _ ⟨gs, i * 4 + 3, none⟩ = some (.bool g) := (HO.out.cell (.tail .head) (i * 4 + 3)).trans HC3.out))
        go_ret
        exact ⟨_, rfl, AR, cr, HCR.out.1, HCR.out.2, by rw [← HK.out.1]; exact HAR.out, HO.out⟩
      · have hf : (!g && r.st == 0) = false := Bool.eq_false_iff.mpr h0
        have HT2 := Aside0.mk hf
        have HF3 : Aside0 (i + 1 + dgone (R.drop (i + 1)) (G.drop (i + 1)) = k1) := ⟨by rw [if_neg h0] at HF2; omega⟩
        have u1 := W1.out.1; have u1b := W1.out.2
        cases g with
        | true =>
          clear HF2 hin hi hi2 h0 hf
          go_wp2_with (first | ((with_reducible refine gate_dst (N := 9) rfl ?_); refine own_load HO.out rfl (x := .tmp 8) (v := .slice (some ⟨gs, 0, none⟩) n c) rfl (by rfl) (by (repeat (first | exact .head | apply Ext.tail))) hurs (by rfl) (by rfl) ?_) | ((with_reducible refine gate_callee (f := 51) rfl ?_); (with_reducible refine gate_dst (N := 16) rfl ?_); refine goesL_ (some 16) rfl rfl Try.func51 (by kernel_rfl) rfl #[.pointer (some ⟨gw, 0, none⟩), .int .i64 (i : Int)] rfl (by (try simp only [List.map_toArray, List.map_cons, List.map_nil]); first | done | rfl) ?_; (with_reducible refine (dhas_in w0 _ (AR ++ L) ([(gs, .cells cr 78 (0, 0))] ++ T) gw room drops (some ⟨gs, 0, none⟩) n c R (marks G i) HST.out i r true false HR.out HMG.out HT2.out (HO.out.repr (L' := (gw, .cells #[.int .i64 room, .int .i64 drops, .slice (some ⟨gs, 0, none⟩) n c] 72 (0, 0)) :: (([(gs, .cells cr 78 (0, 0))] ++ T) ++ (AR ++ L))) [] (by classical exact List.perm_iff_count.2 (fun a => by simp only [List.count_append, List.count_cons, List.count_nil, List.append_assoc, List.cons_append, List.nil_append] <;> ac_rfl)))).mono ?_); rintro e wx ⟨rfl, hO_⟩; refine ⟨_, rfl, ?_⟩; have hO_ := hO_.repr (L' := ((gw, .cells #[.int .i64 room, .int .i64 drops, .slice (some ⟨gs, 0, none⟩) n c] 72 (0, 0)) :: (gs, .cells cr 78 (0, 0)) :: (AR ++ (T ++ L)))) [] (by classical exact List.perm_iff_count.2 (fun a => by simp only [List.count_append, List.count_cons, List.count_nil, List.append_assoc, List.cons_append, List.nil_append] <;> ac_rfl)); clear HO; have HO := Aside0.mk hO_; clear hO_; have hk2 : World.cell? _ ⟨gw, 2, none⟩ = some (.slice (some ⟨gs, 0, none⟩) n c) := (HO.out.cell .head 2).trans rfl; have hx1 : World.cell? _ ⟨gs, i * 4 + 1, none⟩ = some (.int .i64 r.st) := (HO.out.cell (.tail .head) (i * 4 + 1)).trans HC1.out; have hx3 : World.cell? _ ⟨gs, i * 4 + 3, none⟩ = some (.bool true) := (HO.out.cell (.tail .head) (i * 4 + 3)).trans HC3.out) | ((with_reducible refine gate_dst (N := 61) rfl ?_); refine own_load HO.out rfl (x := .tmp 60) (v := .slice (some ⟨gs, 0, none⟩) n c) rfl (by rfl) (by (repeat (first | exact .head | apply Ext.tail))) hurs (by rfl) (by rfl) ?_) | ((with_reducible refine gate_store (p := 64) rfl ?_); refine own_store HO.out rfl (ty := 4) (x := .tmp 64) (y := .const (.bool true)) (v := .bool true) (cs' := cr.setIfInBounds (i * 4 + 3) (.bool true)) rfl (by rfl) (by rfl) (by (repeat (first | exact .head | apply Ext.tail))) (by kernel_rfl) (by rfl) HJ.out rfl ?_; intro wc hO_; have hO_ := hO_.repr (L' := ((gw, .cells #[.int .i64 room, .int .i64 drops, .slice (some ⟨gs, 0, none⟩) n c] 72 (0, 0)) :: (gs, .cells (cr.setIfInBounds (i * 4 + 3) (.bool true)) 78 (0, 0)) :: (AR ++ (T ++ L)))) [] (by classical exact List.perm_iff_count.2 (fun a => by simp only [List.count_append, List.count_cons, List.count_nil, List.append_assoc, List.cons_append, List.nil_append] <;> ac_rfl)); clear HO; have HO := Aside0.mk hO_; clear hO_))
          go_roundg m
          case measure => clear u1 u1b; omega
          case rel =>
            refine ⟨i + 1, k, AR, Ao, co, _, rfl, rfl, ⟨by clear u1 u1b; have := HI.out; omega⟩, HF3, ⟨?_, HK.out.2⟩, ⟨?_⟩, HSET, HO⟩
            · have := HSN.out; rw [if_pos trivial, List.append_nil] at this; rw [this]; exact HK.out.1
            · have e1 := HSN.out; have e2 := HSV.out; rw [if_pos trivial, List.append_nil] at e1 e2; rw [e1, e2]; exact HAR.out
        | false =>
          have hs0 : ¬ r.st = 0 := fun h => by rw [h] at hf; exact absurd hf (by decide)
          by_cases h1 : r.st = 1
          · have e1 : (r.st == 1) = true := by rw [h1]; rfl
            have e1p : decide (r.st = 1) = true := decide_eq_true h1
            have HS1 := Aside0.mk h1
            have HKB : Aside0 (k + 1 ≤ maxLen ∧ (k + 1) * 32 ≤ 140737488355328) := ⟨by have := HK.out.2; constructor; (show k + 1 ≤ 9223372036854775807; omega); omega⟩
            clear HF2 hin hi hi2 h0 hf hs0 h1
            go_wp2_with (first | ((with_reducible refine gate_dst (N := 9) rfl ?_); refine own_load HO.out rfl (x := .tmp 8) (v := .slice (some ⟨gs, 0, none⟩) n c) rfl (by rfl) (by (repeat (first | exact .head | apply Ext.tail))) hurs (by rfl) (by rfl) ?_) | ((with_reducible refine gate_callee (f := 51) rfl ?_); (with_reducible refine gate_dst (N := 16) rfl ?_); refine goesL_ (some 16) rfl rfl Try.func51 (by kernel_rfl) rfl #[.pointer (some ⟨gw, 0, none⟩), .int .i64 (i : Int)] rfl (by (try simp only [List.map_toArray, List.map_cons, List.map_nil]); first | done | rfl) ?_; (with_reducible refine (dhas_in w0 _ (AR ++ L) ([(gs, .cells cr 78 (0, 0))] ++ T) gw room drops (some ⟨gs, 0, none⟩) n c R (marks G i) HST.out i r false false HR.out HMG.out HT2.out (HO.out.repr (L' := (gw, .cells #[.int .i64 room, .int .i64 drops, .slice (some ⟨gs, 0, none⟩) n c] 72 (0, 0)) :: (([(gs, .cells cr 78 (0, 0))] ++ T) ++ (AR ++ L))) [] (by classical exact List.perm_iff_count.2 (fun a => by simp only [List.count_append, List.count_cons, List.count_nil, List.append_assoc, List.cons_append, List.nil_append] <;> ac_rfl)))).mono ?_); rintro e wx ⟨rfl, hO_⟩; refine ⟨_, rfl, ?_⟩; have hO_ := hO_.repr (L' := ((gw, .cells #[.int .i64 room, .int .i64 drops, .slice (some ⟨gs, 0, none⟩) n c] 72 (0, 0)) :: (gs, .cells cr 78 (0, 0)) :: (AR ++ (T ++ L)))) [] (by classical exact List.perm_iff_count.2 (fun a => by simp only [List.count_append, List.count_cons, List.count_nil, List.append_assoc, List.cons_append, List.nil_append] <;> ac_rfl)); clear HO; have HO := Aside0.mk hO_; clear hO_; have hk2 : World.cell? _ ⟨gw, 2, none⟩ = some (.slice (some ⟨gs, 0, none⟩) n c) := (HO.out.cell .head 2).trans rfl; have hx1 : World.cell? _ ⟨gs, i * 4 + 1, none⟩ = some (.int .i64 r.st) := (HO.out.cell (.tail .head) (i * 4 + 1)).trans HC1.out; have hx3 : World.cell? _ ⟨gs, i * 4 + 3, none⟩ = some (.bool false) := (HO.out.cell (.tail .head) (i * 4 + 3)).trans HC3.out))
            refine start_ (n := 21) (S := fun W => Own w0 W ((gw, .cells #[.int .i64 room, .int .i64 drops, .slice (some ⟨gs, 0, none⟩) n c] 72 (0, 0)) :: (gs, .cells cr 78 (0, 0)) :: [])) (ds := [19]) #[false, false, false, false, false, false, false, false, false, false, false, false, false, false, false, false, false, false, false, false, false] (by kernel_rfl) rfl rfl (Own.drew (HO.out.picks (.cons (by (repeat (first | exact .head | apply Ext.tail))) (.cons (by (repeat (first | exact .head | apply Ext.tail))) (.nil))))) (fun hHeld => ?_)
            have HO_ := Aside0.mk HO.out.drew
            clear HO
            have HO := HO_
            clear HO_
            generalize World.drew _ = wr at HO hHeld ⊢
            refine Hp.pu_ 0 38 (Hp.up 21 1) ?_
            refine Hp.pu_ 1 39 (Hp.up 21 2) ?_
            refine Hp.pu_ 2 40 (Hp.up 21 3) ?_
            refine Hp.pu_ 3 41 (Hp.up 21 4) ?_
            refine take_ (i := 4) (N := some 42) (v := .slice (some ⟨gs, 0, none⟩) n c) (a' := ?_) (Hp.up 21 5) rfl rfl (by kernel_rfl) (fun _ _ _ h => h) (own_yield1 (by rfl) (x := .tmp 41) rfl (by rfl) (.head) Try.underlying70 (by rfl) (by rfl)) hHeld ?_ ?_
            rotate_left
            · simp only [Act.put, List.setIfInBounds_toArray, List.set_cons_zero, List.set_cons_succ, i64_w, i32_w]
              rfl
            refine Hp.pu_ 5 43 (Hp.up 21 6) ?_
            refine Hp.pu_ 6 44 (Hp.up 21 7) ?_
            refine Hp.pu_ 7 45 (Hp.up 21 8) ?_
            refine take_ (i := 8) (N := some 46) (v := .int .i64 r.ow) (a' := ?_) (Hp.up 21 9) rfl rfl (by kernel_rfl) (fun _ _ _ h => h) (own_yield1 (by rfl) (x := .tmp 45) rfl (by rfl) (.tail .head) hui (by rfl) HC0.out) hHeld ?_ ?_
            rotate_left
            · simp only [Act.put, List.setIfInBounds_toArray, List.set_cons_zero, List.set_cons_succ, i64_w, i32_w]
              rfl
            refine Hp.pu_ 9 47 (Hp.up 21 10) ?_
            refine Hp.pu_ 10 48 (Hp.up 21 11) ?_
            refine Hp.pu_ 11 49 (Hp.up 21 12) ?_
            refine take_ (i := 12) (N := some 50) (v := .slice (some ⟨gs, 0, none⟩) n c) (a' := ?_) (Hp.up 21 13) rfl rfl (by kernel_rfl) (fun _ _ _ h => h) (own_yield1 (by rfl) (x := .tmp 49) rfl (by rfl) (.head) Try.underlying70 (by rfl) (by rfl)) hHeld ?_ ?_
            rotate_left
            · simp only [Act.put, List.setIfInBounds_toArray, List.set_cons_zero, List.set_cons_succ, i64_w, i32_w]
              rfl
            refine Hp.pu_ 13 51 (Hp.up 21 14) ?_
            refine Hp.pu_ 14 52 (Hp.up 21 15) ?_
            refine Hp.pu_ 15 53 (Hp.up 21 16) ?_
            refine take_ (i := 16) (N := some 54) (v := .slice Ab r.b.length cb) (a' := ?_) (Hp.up 21 17) rfl rfl (by kernel_rfl) (fun _ _ _ h => h) (own_yield1 (by rfl) (x := .tmp 53) rfl (by rfl) (.tail .head) hul (by rfl) HC2.out) hHeld ?_ ?_
            rotate_left
            · simp only [Act.put, List.setIfInBounds_toArray, List.set_cons_zero, List.set_cons_succ, i64_w, i32_w]
              rfl
            refine Hp.pu_ 17 55 (Hp.up 21 18) ?_
            refine one_ (i := 18) (N := some 56) (Hp.up 21 19) rfl rfl (by kernel_rfl) (by decide) (fun K hK => ?_)
            refine own_lit_k HO.out (by rfl) (N := 56) rfl (cs := #[.int .i64 r.ow, .slice Ab r.b.length cb]) (t := 51) (n := 1) (m := 1) (by first | (go_simp; done) | (go_simp; rfl) | kernel_rfl) ?_
            intro g56 w56 hO_
            clear HO; have HO := Aside0.mk hO_; clear hO_
            refine hK.out _ _ (HO.out.picks (.cons (by (repeat (first | exact .head | apply Ext.tail))) (.cons (by (repeat (first | exact .head | apply Ext.tail))) (.nil)))) (fun hHeld => ?_)
            clear hK K
            refine norm_ (a' := ?_) ?_ ?_
            rotate_left
            · show Act.put _ (some 56) _ = _
              simp only [Act.put, List.setIfInBounds_toArray, List.set_cons_zero, List.set_cons_succ, i64_w, i32_w]
              rfl
            refine last_ (i := 19) (N := some 57) (Hp.up 21 20) rfl rfl (by kernel_rfl) (by decide) (fun K hK => ?_)
            refine own_append_k (z := .agg #[.int .i64 0, .slice none 0 0]) (size := 2) (bytes := 32) (R := AR) (L := T ++ L) [(g56, .cells #[.int .i64 r.ow, .slice Ab r.b.length cb] 51 (0, 0)), (gw, .cells #[.int .i64 room, .int .i64 drops, .slice (some ⟨gs, 0, none⟩) n c] 72 (0, 0)), (gs, .cells cr 78 (0, 0))] HO.out (by rfl) (N := 57) rfl rfl huas (by kernel_rfl) rfl (by rfl) HAR.out (by rfl) (HO.out.src huas .head 0 1 1 [.int .i64 r.ow, .slice Ab r.b.length cb] rfl rfl (by simp [Value.oneCell'])) HKB.out.1 HKB.out.2 ?_
            intro v2 R2 wc hR2 hO_
            obtain ⟨A2, c2, rfl⟩ := RowOf.shape hR2
            have HR2 := Aside0.mk hR2
            clear hR2
            have hO_ : Own w0 wc ((g56, .cells #[.int .i64 r.ow, .slice Ab r.b.length cb] 51 (0, 0)) :: (gw, .cells #[.int .i64 room, .int .i64 drops, .slice (some ⟨gs, 0, none⟩) n c] 72 (0, 0)) :: (gs, .cells cr 78 (0, 0)) :: (R2 ++ (T ++ L))) := hO_
            have hO_ := hO_.drop
            clear HO; have HO := Aside0.mk hO_; clear hO_
            refine hK.out _ _ ?_
            clear hK K
            refine norm_ (a' := ?_) ?_ ?_
            rotate_left
            · show Act.put _ (some 57) _ = _
              simp only [Act.put, List.setIfInBounds_toArray, List.set_cons_zero, List.set_cons_succ, i64_w, i32_w]
              rfl
            refine Hp.pu_ 20 3 (Hp.up 21 21) ?_
            refine done_ (by kernel_rfl) ?_
            clear hHeld
            go_wp2_with (first | ((with_reducible refine gate_dst (N := 61) rfl ?_); refine own_load HO.out rfl (x := .tmp 60) (v := .slice (some ⟨gs, 0, none⟩) n c) rfl (by rfl) (by (repeat (first | exact .head | apply Ext.tail))) hurs (by rfl) (by rfl) ?_) | ((with_reducible refine gate_store (p := 64) rfl ?_); refine own_store HO.out rfl (ty := 4) (x := .tmp 64) (y := .const (.bool true)) (v := .bool true) (cs' := cr.setIfInBounds (i * 4 + 3) (.bool true)) rfl (by rfl) (by rfl) (by (repeat (first | exact .head | apply Ext.tail))) (by kernel_rfl) (by rfl) HJ.out rfl ?_; intro wc hO_; have hO_ := hO_.repr (L' := ((gw, .cells #[.int .i64 room, .int .i64 drops, .slice (some ⟨gs, 0, none⟩) n c] 72 (0, 0)) :: (gs, .cells (cr.setIfInBounds (i * 4 + 3) (.bool true)) 78 (0, 0)) :: (R2 ++ (T ++ L)))) [] (by classical exact List.perm_iff_count.2 (fun a => by simp only [List.count_append, List.count_cons, List.count_nil, List.append_assoc, List.cons_append, List.nil_append] <;> ac_rfl)); clear HO; have HO := Aside0.mk hO_; clear hO_))
            go_roundg m
            case measure => clear u1 u1b; omega
            case rel =>
              refine ⟨i + 1, k + 1, R2, A2, c2, _, rfl, rfl, ⟨by clear u1 u1b; have := HI.out; omega⟩, HF3, ⟨?_, ?_⟩, ⟨?_⟩, HSET, HO⟩
              · have a1 := HSN.out; have a2 := HTN.out; rw [if_neg (by decide)] at a1; rw [if_pos HS1.out] at a2; rw [a1, a2, HK.out.1]
              · have a1 := HSN.out; have a2 := HTN.out; have a3 := HNL.out; rw [if_neg (by decide)] at a1; rw [if_pos HS1.out] at a2; rw [a1, a2] at a3; have := HK.out.1; omega
              · have a1 := HSN.out; have a2 := HSV.out; have a3 := HTS.out; rw [if_neg (by decide)] at a1 a2; rw [if_pos HS1.out] at a3; rw [a1, a2, a3]; exact HR2.out
          · have e1 : (r.st == 1) = false := beq_eq_false_iff_ne.mpr h1
            have e1p : decide (r.st = 1) = false := decide_eq_false h1
            have HS1 := Aside0.mk h1
            clear HF2 hin hi hi2 h0 hf hs0 h1
            go_wp2_with (first | ((with_reducible refine gate_dst (N := 9) rfl ?_); refine own_load HO.out rfl (x := .tmp 8) (v := .slice (some ⟨gs, 0, none⟩) n c) rfl (by rfl) (by (repeat (first | exact .head | apply Ext.tail))) hurs (by rfl) (by rfl) ?_) | ((with_reducible refine gate_callee (f := 51) rfl ?_); (with_reducible refine gate_dst (N := 16) rfl ?_); refine goesL_ (some 16) rfl rfl Try.func51 (by kernel_rfl) rfl #[.pointer (some ⟨gw, 0, none⟩), .int .i64 (i : Int)] rfl (by (try simp only [List.map_toArray, List.map_cons, List.map_nil]); first | done | rfl) ?_; (with_reducible refine (dhas_in w0 _ (AR ++ L) ([(gs, .cells cr 78 (0, 0))] ++ T) gw room drops (some ⟨gs, 0, none⟩) n c R (marks G i) HST.out i r false false HR.out HMG.out HT2.out (HO.out.repr (L' := (gw, .cells #[.int .i64 room, .int .i64 drops, .slice (some ⟨gs, 0, none⟩) n c] 72 (0, 0)) :: (([(gs, .cells cr 78 (0, 0))] ++ T) ++ (AR ++ L))) [] (by classical exact List.perm_iff_count.2 (fun a => by simp only [List.count_append, List.count_cons, List.count_nil, List.append_assoc, List.cons_append, List.nil_append] <;> ac_rfl)))).mono ?_); rintro e wx ⟨rfl, hO_⟩; refine ⟨_, rfl, ?_⟩; have hO_ := hO_.repr (L' := ((gw, .cells #[.int .i64 room, .int .i64 drops, .slice (some ⟨gs, 0, none⟩) n c] 72 (0, 0)) :: (gs, .cells cr 78 (0, 0)) :: (AR ++ (T ++ L)))) [] (by classical exact List.perm_iff_count.2 (fun a => by simp only [List.count_append, List.count_cons, List.count_nil, List.append_assoc, List.cons_append, List.nil_append] <;> ac_rfl)); clear HO; have HO := Aside0.mk hO_; clear hO_; have hk2 : World.cell? _ ⟨gw, 2, none⟩ = some (.slice (some ⟨gs, 0, none⟩) n c) := (HO.out.cell .head 2).trans rfl; have hx1 : World.cell? _ ⟨gs, i * 4 + 1, none⟩ = some (.int .i64 r.st) := (HO.out.cell (.tail .head) (i * 4 + 1)).trans HC1.out; have hx3 : World.cell? _ ⟨gs, i * 4 + 3, none⟩ = some (.bool false) := (HO.out.cell (.tail .head) (i * 4 + 3)).trans HC3.out) | ((with_reducible refine gate_dst (N := 61) rfl ?_); refine own_load HO.out rfl (x := .tmp 60) (v := .slice (some ⟨gs, 0, none⟩) n c) rfl (by rfl) (by (repeat (first | exact .head | apply Ext.tail))) hurs (by rfl) (by rfl) ?_) | ((with_reducible refine gate_store (p := 64) rfl ?_); refine own_store HO.out rfl (ty := 4) (x := .tmp 64) (y := .const (.bool true)) (v := .bool true) (cs' := cr.setIfInBounds (i * 4 + 3) (.bool true)) rfl (by rfl) (by rfl) (by (repeat (first | exact .head | apply Ext.tail))) (by kernel_rfl) (by rfl) HJ.out rfl ?_; intro wc hO_; have hO_ := hO_.repr (L' := ((gw, .cells #[.int .i64 room, .int .i64 drops, .slice (some ⟨gs, 0, none⟩) n c] 72 (0, 0)) :: (gs, .cells (cr.setIfInBounds (i * 4 + 3) (.bool true)) 78 (0, 0)) :: (AR ++ (T ++ L)))) [] (by classical exact List.perm_iff_count.2 (fun a => by simp only [List.count_append, List.count_cons, List.count_nil, List.append_assoc, List.cons_append, List.nil_append] <;> ac_rfl)); clear HO; have HO := Aside0.mk hO_; clear hO_))
            go_roundg m
            case measure => clear u1 u1b; omega
            case rel =>
              refine ⟨i + 1, k, AR, Ao, co, _, rfl, rfl, ⟨by clear u1 u1b; have := HI.out; omega⟩, HF3, ⟨?_, HK.out.2⟩, ⟨?_⟩, HSET, HO⟩
              · have a1 := HSN.out; have a2 := HTN.out; rw [if_neg (by decide)] at a1; rw [if_neg HS1.out, Nat.add_zero] at a2; rw [a1, a2]; exact HK.out.1
              · have a1 := HSN.out; have a2 := HSV.out; have a3 := HTS.out; rw [if_neg (by decide)] at a1 a2; rw [if_neg HS1.out, List.append_nil] at a3; rw [a1, a2, a3]; exact HAR.out
set_option maxHeartbeats 8000000 in
set_option maxRecDepth 100000 in
theorem ddrain_nil (w0 w : World) (X L : Hl) (gw : Nat) (room drops : Int) (A : Option Addr) (c : Nat) (hO : Own w0 w ((gw, .cells #[.int .i64 room, .int .i64 drops, .slice A 0 c] 72 (0, 0)) :: (X ++ L))) : Calls Try.prog 50 #[.pointer (some ⟨gw, 0, none⟩)] w fun e w' => e = .returned (.slice none 0 0) ∧ Own w0 w' ((gw, .cells #[.int .i64 room, .int .i64 drops, .slice A 0 c] 72 (0, 0)) :: (X ++ L)) := by
  have hui := Try.underlying3
  have hul := Try.underlying32
  have hu8 := Try.underlying5
  have hub := Try.underlying4
  have hur := Try.underlying78
  have hurs := Try.underlying70
  have HO := Aside0.mk hO
  clear hO
  go_enter Try.func50, Try.ntmps50
  go_wp2
  go_loopg [3, 4] 0 (fun gk v3 v4 w' => v4 = .int .i64 0 ∧ v3 = .slice none 0 0 ∧ Aside0 (Own w0 w' ((gw, .cells #[.int .i64 room, .int .i64 drops, .slice A 0 c] 72 (0, 0)) :: (X ++ L))))
  case atStart => exact ⟨rfl, rfl, HO⟩
  case round =>
    clear HO
    obtain ⟨rfl, rfl, HO⟩ := hrel
    go_wp2_with (first | ((with_reducible refine gate_dst (N := 9) rfl ?_); refine own_load HO.out rfl (x := .tmp 8) (v := .slice A 0 c) rfl (by rfl) (by (repeat (first | exact .head | apply Ext.tail))) hurs (by rfl) (by rfl) ?_))
    go_ret
    exact ⟨rfl, HO.out⟩
theorem ddrain_calls (w0 w : World) (L X : Hl) (gw : Nat) (room drops : Int) (A : Option Addr) (n c : Nat) (R : List Rc) (G : List Bool) (hS : DSt X A n c R G) (hO : Own w0 w ((gw, .cells #[.int .i64 room, .int .i64 drops, .slice A n c] 72 (0, 0)) :: (X ++ L))) : Calls Try.prog 50 #[.pointer (some ⟨gw, 0, none⟩)] w fun e w' =>
    ∃ v', e = .returned v' ∧ ∃ AR X' G' Rl Vl, G' = marks G (dgone R G) ∧ DSt X' A n c R G' ∧ Rl = (live R G).take (gone (live R G)) ∧ RowOf 51 2 AR v' (ntold Rl) (tolds Rl Vl) ∧ VRows X' Vl Rl ∧ Own w0 w' ((gw, .cells #[.int .i64 room, .int .i64 drops, .slice A n c] 72 (0, 0)) :: (X' ++ (AR ++ L))) := by
  obtain ⟨RR, T, V, rfl, hR, hB⟩ := hS.ex
  rcases Nat.eq_zero_or_pos n with rfl | hn
  · have hR0 : R = [] := List.eq_nil_of_length_eq_zero hS.len
    have hG0 : G = [] := List.eq_nil_of_length_eq_zero hS.glen
    subst hR0
    subst hG0
    refine (ddrain_nil w0 w (RR ++ T) L gw room drops A c hO).mono ?_
    rintro e w' ⟨rfl, hO'⟩
    exact ⟨_, rfl, [], _, _, _, [], rfl, hS, rfl, RowOf.none _ _, ⟨rfl, fun j r hr => by simp [live] at hr⟩, hO'⟩
  · obtain ⟨gs, cr, rfl, rfl, hle, hcs, hnc, htk, hcm, -⟩ := RowOf.setAt hR hn
    refine (ddrain_row w0 w L T gw room drops gs n c R G V cr hn hnc hcm hcs htk hB hS.len hS.glen hS.le hS.bs hS.ids (dgone R G) rfl hO).mono ?_
    rintro e w' ⟨v', rfl, AR, cr2, h1, h2, h3, h4⟩
    have hgl : (marks G (dgone R G)).length = n := by rw [marks_len (by have := dgone_le R G; have := hS.len; have := hS.glen; omega)]; exact hS.glen
    refine ⟨_, rfl, AR, [(gs, .cells cr2 78 (0, 0))] ++ T, _, _, _, rfl, DSt.ofRow hnc hcm h1 h2 hB hS.len hgl hS.le hS.bs hS.ids, live_take R G, h3, ?_, h4.repr [] (by classical exact List.perm_iff_count.2 (fun a => by simp only [List.count_append, List.count_cons, List.count_nil, List.append_assoc, List.cons_append, List.nil_append] <;> ac_rfl))⟩
    exact ((hB.vrows.take (dgone R G)).live (G.take (dgone R G))).perm [(gs, .cells cr2 78 (0, 0))] List.perm_append_comm
theorem tolds_len : ∀ (R : List Rc) (V : List Value), V.length = R.length → (tolds R V).length = ntold R * 2
  | [], [], _ => rfl
  | r :: R, v :: V, h => by
    have ih := tolds_len R V (by simpa using h)
    unfold tolds ntold
    split <;> simp [ih]
    omega
  | r :: R, [], h => by cases h
  | [], v :: V, h => by cases h
theorem permA {a b B J T1 T2 L : Hl} (h : T1.Perm (B ++ J)) : (a ++ (b ++ (T1 ++ (T2 ++ L)))).Perm (B ++ (J ++ (a ++ (b ++ (T2 ++ L))))) := by
  refine List.Perm.trans (List.Perm.append_left a (List.Perm.append_left b (List.Perm.append_right _ h))) ?_
  exact (by classical exact List.perm_iff_count.2 (fun a => by simp only [List.count_append, List.count_cons, List.count_nil, List.append_assoc, List.cons_append, List.nil_append] <;> ac_rfl))
theorem permB {a b B J T1 T2 L : Hl} (h : T2.Perm (B ++ J)) : (a ++ (b ++ (T1 ++ (T2 ++ L)))).Perm (B ++ (J ++ (a ++ (b ++ (T1 ++ L))))) := by
  refine List.Perm.trans (List.Perm.append_left a (List.Perm.append_left b (List.Perm.append_left T1 (List.Perm.append_right _ h)))) ?_
  exact (by classical exact List.perm_iff_count.2 (fun a => by simp only [List.count_append, List.count_cons, List.count_nil, List.append_assoc, List.cons_append, List.nil_append] <;> ac_rfl))
set_option maxHeartbeats 8000000 in
set_option maxRecDepth 100000 in
theorem audits_calls (w0 w : World) (L A1 A2 T1 T2 : Hl) (Aa Ab : Option Addr) (k na nb : Nat) (R : List Rc) (V1 V2 : List Value) (h1 : RowOf 51 2 A1 (.slice Aa k na) k (tolds R V1)) (h2 : RowOf 51 2 A2 (.slice Ab k nb) k (tolds R V2)) (hk : k = ntold R) (hk80 : k ≤ 80)
    (hv1 : VRows T1 V1 R) (hv2 : VRows T2 V2 R) (hO : Own w0 w (A1 ++ (A2 ++ (T1 ++ (T2 ++ L))))) : Calls Try.prog 49 #[.slice Aa k na, .slice Ab k nb] w fun e w' => e = .returned (.bool true) ∧ Own w0 w' (A1 ++ (A2 ++ (T1 ++ (T2 ++ L)))) := by
  have hui := Try.underlying3
  have hul := Try.underlying32
  have hu8 := Try.underlying5
  have hub := Try.underlying4
  have hur := Try.underlying78
  have hurs := Try.underlying70
  have hua := Try.underlying51
  have huas := Try.underlying47
  have hus := Try.underlying9
  rcases Nat.eq_zero_or_pos k with rfl | hkp
  · have HO := Aside0.mk hO
    clear hO h1 h2 hk hv1 hv2 hk80
    go_enter Try.func49, Try.ntmps49
    go_wp2
    go_loopg [5] 0 (fun gk v5 w' => v5 = .int .i64 0 ∧ Aside0 (Own w0 w' (A1 ++ (A2 ++ (T1 ++ (T2 ++ L))))))
    case atStart => exact ⟨rfl, HO⟩
    case round =>
      clear HO
      obtain ⟨rfl, HO⟩ := hrel
      go_wp2
      go_ret
      exact ⟨rfl, HO.out⟩
  · obtain ⟨ga, ca, rfl, rfl, ha1, ha2, ha3, ha4, ha5, -⟩ := RowOf.setAt h1 hkp
    obtain ⟨gb, cb, rfl, rfl, hb1, hb2, hb3, hb4, hb5, -⟩ := RowOf.setAt h2 hkp
    have HV1 := Aside0.mk hv1
    have HV2 := Aside0.mk hv2
    have HA4 := Aside0.mk ha4
    have HB4 := Aside0.mk hb4
    have HK := Aside0.mk (And.intro hk hk80)
    have HO : Aside0 (Own w0 w ((ga, .cells ca 51 (0, 0)) :: (gb, .cells cb 51 (0, 0)) :: (T1 ++ (T2 ++ L)))) := ⟨hO⟩
    clear h1 h2 hk hk80 hkp hv1 hv2 hO ha1 ha2 ha3 ha4 ha5 hb1 hb2 hb3 hb4 hb5
    go_enter Try.func49, Try.ntmps49
    go_wp2
    go_loopg [5] k (fun gk v5 w' => ∃ j : Nat, v5 = .int .i64 (j : Int) ∧ Aside0 (j + gk = k) ∧ Aside0 (Own w0 w' ((ga, .cells ca 51 (0, 0)) :: (gb, .cells cb 51 (0, 0)) :: (T1 ++ (T2 ++ L)))))
    case atStart => exact ⟨0, rfl, ⟨Nat.zero_add _⟩, HO⟩
    case round =>
      clear HO
      obtain ⟨j, rfl, HI, HO⟩ := hrel
      cases gk with
      | zero =>
        have c1 : decide ((j : Int) < (k : Int)) = false := decide_eq_false (by have := HI.out; omega)
        have c1n : decide (j < k) = false := decide_eq_false (by have := HI.out; omega)
        go_wp2
        go_ret
        exact ⟨rfl, HO.out⟩
      | succ m =>
        have hin : j < k := by have := HI.out; omega
        have c1 : decide ((j : Int) < (k : Int)) = true := decide_eq_true (by omega)
        have c1n : decide (j < k) = true := decide_eq_true hin
        have p1 := eq_true (show 0 ≤ (j : Int) by omega)
        have q1 := eq_true (show (j : Int) < (k : Int) by omega)
        have q1n := eq_true hin
        have hjt : j < (tl R).length := by rw [tl_len, ← HK.out.1]; exact hin
        obtain ⟨va, B1, J1, ka0, ka1, hra, hpa⟩ := HV1.out.told j (tl R)[j] (List.getElem?_eq_getElem hjt)
        obtain ⟨vb, B2, J2, kb0, kb1, hrb, hpb⟩ := HV2.out.told j (tl R)[j] (List.getElem?_eq_getElem hjt)
        obtain ⟨Ab, cx, rfl⟩ := RowOf.shape hra
        obtain ⟨Ac, cy, rfl⟩ := RowOf.shape hrb
        have HA0 := Aside0.mk (cell_of_take HA4.out ka0)
        have HA1 := Aside0.mk (cell_of_take HA4.out ka1)
        have HB0 := Aside0.mk (cell_of_take HB4.out kb0)
        have HB1 := Aside0.mk (cell_of_take HB4.out kb1)
        have HRA := Aside0.mk hra
        have HRB := Aside0.mk hrb
        have HPA := Aside0.mk (permA (a := [(ga, .cells ca 51 (0, 0))]) (b := [(gb, .cells cb 51 (0, 0))]) (T2 := T2) (L := L) hpa)
        have HPB := Aside0.mk (permB (a := [(ga, .cells ca 51 (0, 0))]) (b := [(gb, .cells cb 51 (0, 0))]) (T1 := T1) (L := L) hpb)
        have W1 := w_of (x := (j : Int) + 1) (y := ((j + 1 : Nat) : Int)) (by omega) (by have := HK.out.2; omega)
        have u1 := W1.out.1; have u1b := W1.out.2
        generalize (tl R)[j] = r at HA0 HA1 HB0 HB1 HRA HRB
        clear hin hjt ka0 ka1 hra hpa kb0 kb1 hrb hpb
        go_wp2
        refine start_ (n := 26) (S := fun W => Own w0 W ((ga, .cells ca 51 (0, 0)) :: (gb, .cells cb 51 (0, 0)) :: (T1 ++ (T2 ++ L)))) (ds := []) #[false, false, false, false, false, false, false, false, false, false, false, false, false, false, false, false, false, false, false, false, false, false, false, false, false, false] (by kernel_rfl) rfl rfl (Own.drew (HO.out)) (fun hHeld => ?_)
        have HO_ := Aside0.mk HO.out.drew
        clear HO
        have HO := HO_
        clear HO_
        generalize World.drew _ = wr at HO hHeld ⊢
        refine Hp.pu_ 0 17 (Hp.up 26 1) ?_
        refine Hp.pu_ 1 18 (Hp.up 26 2) ?_
        refine Hp.pu_ 2 19 (Hp.up 26 3) ?_
        refine Hp.pu_ 3 20 (Hp.up 26 4) ?_
        refine take_ (i := 4) (N := some 21) (v := .int .i64 r.ow) (a' := ?_) (Hp.up 26 5) rfl rfl (by kernel_rfl) (fun _ _ _ h => h) (own_yield1 (by rfl) (x := .tmp 20) rfl (by rfl) (.head) hui (by rfl) HA0.out) hHeld ?_ ?_
        rotate_left
        · simp only [Act.put, List.setIfInBounds_toArray, List.set_cons_zero, List.set_cons_succ, i64_w, i32_w]
          rfl
        refine Hp.pu_ 5 22 (Hp.up 26 6) ?_
        refine Hp.pu_ 6 23 (Hp.up 26 7) ?_
        refine Hp.pu_ 7 24 (Hp.up 26 8) ?_
        refine Hp.pu_ 8 25 (Hp.up 26 9) ?_
        refine take_ (i := 9) (N := some 26) (v := .int .i64 r.ow) (a' := ?_) (Hp.up 26 10) rfl rfl (by kernel_rfl) (fun _ _ _ h => h) (own_yield1 (by rfl) (x := .tmp 25) rfl (by rfl) (.tail .head) hui (by rfl) HB0.out) hHeld ?_ ?_
        rotate_left
        · simp only [Act.put, List.setIfInBounds_toArray, List.set_cons_zero, List.set_cons_succ, i64_w, i32_w]
          rfl
        refine Hp.pu_ 10 27 (Hp.up 26 11) ?_
        refine Hp.pu_ 11 28 (Hp.up 26 12) ?_
        refine Hp.pu_ 12 29 (Hp.up 26 13) ?_
        refine Hp.pu_ 13 30 (Hp.up 26 14) ?_
        refine Hp.pu_ 14 31 (Hp.up 26 15) ?_
        refine Hp.pu_ 15 32 (Hp.up 26 16) ?_
        refine take_ (i := 16) (N := some 33) (v := .slice Ab r.b.length cx) (a' := ?_) (Hp.up 26 17) rfl rfl (by kernel_rfl) (fun _ _ _ h => h) (own_yield1 (by rfl) (x := .tmp 32) rfl (by rfl) (.head) hul (by rfl) HA1.out) hHeld ?_ ?_
        rotate_left
        · simp only [Act.put, List.setIfInBounds_toArray, List.set_cons_zero, List.set_cons_succ, i64_w, i32_w]
          rfl
        refine take_ (i := 17) (N := some 34) (v := .string (strOfNums r.b)) (a' := ?_) (Hp.up 26 18) rfl rfl (by kernel_rfl) (fun _ _ _ h => h) (Or.inl ⟨by rfl, fun w' hS => exec_conv rfl (by rfl) (RowOf.string (P := Try.prog) (L := J1 ++ ((ga, .cells ca 51 (0, 0)) :: (gb, .cells cb 51 (0, 0)) :: (T2 ++ L))) hul hu8 hus HRA.out (hS.perm HPA.out))⟩) hHeld ?_ ?_
        rotate_left
        · simp only [Act.put, List.setIfInBounds_toArray, List.set_cons_zero, List.set_cons_succ, i64_w, i32_w]
          rfl
        refine Hp.pu_ 18 35 (Hp.up 26 19) ?_
        refine Hp.pu_ 19 36 (Hp.up 26 20) ?_
        refine Hp.pu_ 20 37 (Hp.up 26 21) ?_
        refine Hp.pu_ 21 38 (Hp.up 26 22) ?_
        refine take_ (i := 22) (N := some 39) (v := .slice Ac r.b.length cy) (a' := ?_) (Hp.up 26 23) rfl rfl (by kernel_rfl) (fun _ _ _ h => h) (own_yield1 (by rfl) (x := .tmp 38) rfl (by rfl) (.tail .head) hul (by rfl) HB1.out) hHeld ?_ ?_
        rotate_left
        · simp only [Act.put, List.setIfInBounds_toArray, List.set_cons_zero, List.set_cons_succ, i64_w, i32_w]
          rfl
        refine take_ (i := 23) (N := some 40) (v := .string (strOfNums r.b)) (a' := ?_) (Hp.up 26 24) rfl rfl (by kernel_rfl) (fun _ _ _ h => h) (Or.inl ⟨by rfl, fun w' hS => exec_conv rfl (by rfl) (RowOf.string (P := Try.prog) (L := J2 ++ ((ga, .cells ca 51 (0, 0)) :: (gb, .cells cb 51 (0, 0)) :: (T1 ++ L))) hul hu8 hus HRB.out (hS.perm HPB.out))⟩) hHeld ?_ ?_
        rotate_left
        · simp only [Act.put, List.setIfInBounds_toArray, List.set_cons_zero, List.set_cons_succ, i64_w, i32_w]
          rfl
        refine Hp.pu_ 24 41 (Hp.up 26 25) ?_
        refine Hp.pu_ 25 42 (Hp.up 26 26) ?_
        refine done_ (by kernel_rfl) ?_
        clear hHeld
        go_wp2
        go_roundg m
        case measure => clear u1 u1b; omega
        case rel => exact ⟨j + 1, rfl, ⟨by clear u1 u1b; have := HI.out; omega⟩, HO⟩
end Go.Proofs.Rg
