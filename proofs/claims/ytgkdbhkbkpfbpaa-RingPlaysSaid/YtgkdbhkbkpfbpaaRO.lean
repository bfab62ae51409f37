/- The document's ring (halberdref13.Ring): End. -/
import Derived.Test.YtgkdbhkbkpfbpaaRJ
set_option linter.unusedVariables false
set_option linter.unusedSimpArgs false
namespace Go.Proofs.Rg
open Go.RowKit Go.Proofs.Ev Go.Proofs.Hp Go.Proofs.Ar Go.Proofs.YtgkdbhkbkpfbpaaW.PrintWords Go.Proofs.YtgkdbhkbkpfbpaaW.PrintLast Go.Proofs.YtgkdbhkbkpfbpaaW.PrintMore
attribute [local go_sem] max2_int min2_int max_two min_two max_three min_three max_four min_four eql_slice_nil
theorem dcells_set1 : ∀ (R : List Rc) (G : List Bool) (V : List Value) (i : Nat) (r : Rc) (s : Int), R[i]? = some r → (dcells R G V).set (i * 4 + 1) (.int .i64 s) = dcells (R.set i { r with st := s }) G V
  | [], _, _, _, _, _, h => by simp at h
  | _ :: _, [], _, i, _, _, h => by cases i <;> simp [dcells]
  | _ :: _, _ :: _, [], i, _, _, h => by cases i <;> simp [dcells]
  | q :: R, a :: G, u :: V, 0, r, s, h => by
    simp only [List.getElem?_cons_zero, Option.some.injEq] at h
    subst h
    rfl
  | q :: R, a :: G, u :: V, i + 1, r, s, h => by
    have ih := dcells_set1 R G V i r s (by simpa using h)
    have e : (i + 1) * 4 + 1 = (i * 4 + 1) + 1 + 1 + 1 + 1 := by omega
    rw [e]
    simp only [dcells, List.set_cons_succ, ih]
theorem BSt.st {T : Hl} {V : List Value} {R : List Rc} (h : BSt T V R) : ∀ (i : Nat) (r : Rc) (s : Int), R[i]? = some r → BSt T V (R.set i { r with st := s }) := by
  induction h with
  | nil => intro i r s h; simp at h
  | @cons B T v V q R h k ih =>
    intro i r s hi
    cases i with
    | zero =>
      simp only [List.getElem?_cons_zero, Option.some.injEq] at hi
      subst hi
      exact .cons h k
    | succ i => exact .cons h (ih i r s (by simpa using hi))
set_option maxHeartbeats 8000000 in
set_option maxRecDepth 100000 in
theorem dend_out (w0 w : World) (L X : Hl) (gw : Nat) (room drops : Int) (A : Option Addr) (n c : Nat) (R : List Rc) (G : List Bool) (hS : DSt X A n c R G) (x s : Int) (hx : x < 0 ∨ (n : Int) ≤ x) (hO : Own w0 w ((gw, .cells #[.int .i64 room, .int .i64 drops, .slice A n c] 72 (0, 0)) :: (X ++ L))) : Calls Try.prog 48 #[.pointer (some ⟨gw, 0, none⟩), .int .i64 x, .int .i64 s] w fun e w' => e = .returned (.bool false) ∧ Own w0 w' ((gw, .cells #[.int .i64 room, .int .i64 drops, .slice A n c] 72 (0, 0)) :: (X ++ L)) := by
  have hui := Try.underlying3
  have hul := Try.underlying32
  have hu8 := Try.underlying5
  have hub := Try.underlying4
  have hur := Try.underlying78
  have hurs := Try.underlying70
  have HO : Aside0 (Own w0 w ((gw, .cells #[.int .i64 room, .int .i64 drops, .slice A n c] 72 (0, 0)) :: (X ++ L))) := ⟨hO⟩
  have HS := Aside0.mk hS
  clear hO hS
  have HX := Aside0.mk hx
  clear hx
  go_enter Try.func48, Try.ntmps48
  go_wp2_with (first | ((with_reducible refine gate_callee (f := 51) rfl ?_); (with_reducible refine gate_dst (N := 9) rfl ?_); refine goesL_ (some 9) rfl rfl Try.func51 (by kernel_rfl) rfl #[.pointer (some ⟨gw, 0, none⟩), .int .i64 x] rfl (by (try simp only [List.map_toArray, List.map_cons, List.map_nil]); first | done | rfl) ?_; (with_reducible refine (dhas_out w0 _ L X gw room drops A n c R G HS.out x HX.out HO.out).mono ?_); rintro e wx ⟨rfl, hO_⟩; refine ⟨_, rfl, ?_⟩; clear HO; have HO := Aside0.mk hO_; clear hO_))
  go_ret
  exact ⟨rfl, HO.out⟩
set_option maxHeartbeats 8000000 in
set_option maxRecDepth 100000 in
theorem dend_no (w0 w : World) (L X : Hl) (gw : Nat) (room drops : Int) (A : Option Addr) (n c : Nat) (R : List Rc) (G : List Bool) (hS : DSt X A n c R G) (s : Int) (i : Nat) (r : Rc) (g : Bool) (hi : R[i]? = some r) (hg : G[i]? = some g) (ht : (!g && r.st == 0) = false) (hO : Own w0 w ((gw, .cells #[.int .i64 room, .int .i64 drops, .slice A n c] 72 (0, 0)) :: (X ++ L))) : Calls Try.prog 48 #[.pointer (some ⟨gw, 0, none⟩), .int .i64 (i : Int), .int .i64 s] w fun e w' => e = .returned (.bool false) ∧ Own w0 w' ((gw, .cells #[.int .i64 room, .int .i64 drops, .slice A n c] 72 (0, 0)) :: (X ++ L)) := by
  have hui := Try.underlying3
  have hul := Try.underlying32
  have hu8 := Try.underlying5
  have hub := Try.underlying4
  have hur := Try.underlying78
  have hurs := Try.underlying70
  have HO : Aside0 (Own w0 w ((gw, .cells #[.int .i64 room, .int .i64 drops, .slice A n c] 72 (0, 0)) :: (X ++ L))) := ⟨hO⟩
  have HS := Aside0.mk hS
  clear hO hS
  have HRI := Aside0.mk hi
  have HGI := Aside0.mk hg
  have HT := Aside0.mk ht
  clear hi hg ht
  go_enter Try.func48, Try.ntmps48
  go_wp2_with (first | ((with_reducible refine gate_callee (f := 51) rfl ?_); (with_reducible refine gate_dst (N := 9) rfl ?_); refine goesL_ (some 9) rfl rfl Try.func51 (by kernel_rfl) rfl #[.pointer (some ⟨gw, 0, none⟩), .int .i64 (i : Int)] rfl (by (try simp only [List.map_toArray, List.map_cons, List.map_nil]); first | done | rfl) ?_; (with_reducible refine (dhas_in w0 _ L X gw room drops A n c R G HS.out i r g false HRI.out HGI.out HT.out HO.out).mono ?_); rintro e wx ⟨rfl, hO_⟩; refine ⟨_, rfl, ?_⟩; clear HO; have HO := Aside0.mk hO_; clear hO_))
  go_ret
  exact ⟨rfl, HO.out⟩
set_option maxHeartbeats 8000000 in
set_option maxRecDepth 100000 in
theorem dend_has (w0 w : World) (L X : Hl) (gw : Nat) (room drops : Int) (A : Option Addr) (n c : Nat) (R : List Rc) (G : List Bool) (hS : DSt X A n c R G) (s : Int) (i : Nat) (r : Rc) (g : Bool) (hi : R[i]? = some r) (hg : G[i]? = some g) (ht : (!g && r.st == 0) = true) (hO : Own w0 w ((gw, .cells #[.int .i64 room, .int .i64 drops, .slice A n c] 72 (0, 0)) :: (X ++ L))) : Calls Try.prog 48 #[.pointer (some ⟨gw, 0, none⟩), .int .i64 (i : Int), .int .i64 s] w fun e w' => e = .returned (.bool true) ∧ ∃ X' R2, R2 = R.set i { r with st := s } ∧ DSt X' A n c R2 G ∧ Own w0 w' ((gw, .cells #[.int .i64 room, .int .i64 drops, .slice A n c] 72 (0, 0)) :: (X' ++ L)) := by
  have hin : i < n := by rw [← hS.len]; exact (List.getElem?_eq_some_iff.1 hi).1
  obtain ⟨RR, T, V, rfl, hR, hB⟩ := hS.ex
  obtain ⟨gs, cr, rfl, rfl, hle, hcs, hnc, htk, hcm, hput⟩ := RowOf.setAt hR (by omega)
  have hui := Try.underlying3
  have hul := Try.underlying32
  have hu8 := Try.underlying5
  have hub := Try.underlying4
  have hur := Try.underlying78
  have hurs := Try.underlying70
  have HO : Aside0 (Own w0 w ((gw, .cells #[.int .i64 room, .int .i64 drops, .slice (some ⟨gs, 0, none⟩) n c] 72 (0, 0)) :: (gs, .cells cr 78 (0, 0)) :: (T ++ L))) := ⟨hO⟩
  have HS := Aside0.mk hS
  have HRI := Aside0.mk hi
  have HGI := Aside0.mk hg
  have HT := Aside0.mk ht
  have HB := Aside0.mk hB
  have HTK := Aside0.mk htk
  have HPUT := Aside0.mk hput
  have HIN := Aside0.mk hin
  have HJ : Aside0 (i * 4 + 1 < cr.size) := ⟨by rw [hcs]; omega⟩
  have c2n : decide (i < n) = true := decide_eq_true hin
  have p1 := eq_true (show 0 ≤ (i : Int) by omega)
  have q1 := eq_true (show (i : Int) < (n : Int) by omega)
  have q1n := eq_true hin
  clear hO hS hi hg ht hB htk hput hR hle hcs hnc hcm hin
  go_enter Try.func48, Try.ntmps48
  go_wp2_with (first | ((with_reducible refine gate_callee (f := 51) rfl ?_); (with_reducible refine gate_dst (N := 9) rfl ?_); refine goesL_ (some 9) rfl rfl Try.func51 (by kernel_rfl) rfl #[.pointer (some ⟨gw, 0, none⟩), .int .i64 (i : Int)] rfl (by (try simp only [List.map_toArray, List.map_cons, List.map_nil]); first | done | rfl) ?_; (with_reducible refine (dhas_in w0 _ L ([(gs, .cells cr 78 (0, 0))] ++ T) gw room drops (some ⟨gs, 0, none⟩) n c R G HS.out i r g true HRI.out HGI.out HT.out HO.out).mono ?_); rintro e wx ⟨rfl, hO_⟩; refine ⟨_, rfl, ?_⟩; have hO_ : Own w0 wx ((gw, .cells #[.int .i64 room, .int .i64 drops, .slice (some ⟨gs, 0, none⟩) n c] 72 (0, 0)) :: (gs, .cells cr 78 (0, 0)) :: (T ++ L)) := hO_; clear HO; have HO := Aside0.mk hO_; clear hO_) | ((with_reducible refine gate_dst (N := 14) rfl ?_); refine own_load HO.out rfl (x := .tmp 13) (v := .slice (some ⟨gs, 0, none⟩) n c) rfl (by rfl) (by (repeat (first | exact .head | apply Ext.tail))) hurs (by rfl) (by rfl) ?_) | ((with_reducible refine gate_store (p := 18) rfl ?_); refine own_store HO.out rfl (ty := 3) (x := .tmp 18) (y := .tmp 16) (v := .int .i64 s) (cs' := cr.setIfInBounds (i * 4 + 1) (.int .i64 s)) rfl (by rfl) (by rfl) (by (repeat (first | exact .head | apply Ext.tail))) (by kernel_rfl) (by rfl) HJ.out rfl ?_; intro wc hO_; clear HO; have HO := Aside0.mk hO_; clear hO_))
  go_ret
  refine ⟨rfl, [(gs, .cells (cr.setIfInBounds (i * 4 + 1) (.int .i64 s)) 78 (0, 0))] ++ T, _, rfl, ⟨⟨_, T, V, rfl, HPUT.out _ _ (by rw [Array.size_setIfInBounds]) ?_, HB.out.st i r s HRI.out⟩, by rw [List.length_set]; exact HS.out.len, HS.out.glen, HS.out.le, ?_, ?_⟩, ?_⟩
  · have h1 := take_set (v := .int .i64 s) HTK.out (j := i * 4 + 1) (by have := HIN.out; omega)
    rw [dcells_set1 _ _ _ _ _ _ HRI.out] at h1
    exact h1
  · intro q hq
    rcases List.mem_or_eq_of_mem_set hq with hq | rfl
    · exact HS.out.bs q hq
    · exact HS.out.bs r (List.mem_of_getElem? HRI.out)
  · intro j q hq
    rw [List.getElem?_set] at hq
    split at hq
    · rename_i h
      subst h
      split at hq
      · cases hq; exact HS.out.ids i r HRI.out
      · cases hq
    · exact HS.out.ids j q hq
  · exact HO.out.twof
set_option maxHeartbeats 8000000 in
set_option maxRecDepth 100000 in
theorem dres_bad (w0 w : World) (L X : Hl) (gw : Nat) (room drops : Int) (A : Option Addr) (n c : Nat) (R : List Rc) (G : List Bool) (hS : DSt X A n c R G) (ow m : Int) (hm : ¬ (1 ≤ m ∧ m ≤ 32)) (hO : Own w0 w ((gw, .cells #[.int .i64 room, .int .i64 drops, .slice A n c] 72 (0, 0)) :: (X ++ L))) : Calls Try.prog 52 #[.pointer (some ⟨gw, 0, none⟩), .int .i64 ow, .int .i64 m] w fun e w' => e = .returned (.int .i64 (-1)) ∧ Own w0 w' ((gw, .cells #[.int .i64 room, .int .i64 drops, .slice A n c] 72 (0, 0)) :: (X ++ L)) := by
  by_cases h1 : m < 1
  · have m1 : decide (m < 1) = true := decide_eq_true h1
    clear hm h1
    go_enter Try.func52, Try.ntmps52
    go_wp2
    go_ret
    exact ⟨rfl, hO⟩
  · have m1 : decide (m < 1) = false := decide_eq_false h1
    have m2 : decide (32 < m) = true := decide_eq_true (by omega)
    clear hm h1
    go_enter Try.func52, Try.ntmps52
    go_wp2
    go_ret
    exact ⟨rfl, hO⟩
set_option maxHeartbeats 8000000 in
set_option maxRecDepth 100000 in
theorem dres_full (w0 w : World) (L X : Hl) (gw : Nat) (room drops : Int) (A : Option Addr) (n c : Nat) (R : List Rc) (G : List Bool) (hS : DSt X A n c R G) (ow : Int) (m : Nat) (hm : 1 ≤ m ∧ m ≤ 32) (d1 : Int) (hd1 : d1 = drops + 1) (hd : 0 ≤ drops ∧ drops ≤ 100000) (hu : ¬ ((used (live R G) : Int) + (m : Int) + 8 ≤ room)) (hO : Own w0 w ((gw, .cells #[.int .i64 room, .int .i64 drops, .slice A n c] 72 (0, 0)) :: (X ++ L))) : Calls Try.prog 52 #[.pointer (some ⟨gw, 0, none⟩), .int .i64 ow, .int .i64 (m : Int)] w fun e w' => e = .returned (.int .i64 (-1)) ∧ Own w0 w' ((gw, .cells #[.int .i64 room, .int .i64 d1, .slice A n c] 72 (0, 0)) :: (X ++ L)) := by
  have m1 : decide ((m : Int) < 1) = false := decide_eq_false (by omega)
  have m2 : decide (32 < (m : Int)) = false := decide_eq_false (by omega)
  obtain ⟨s1, hs1⟩ : ∃ s1 : Int, s1 = (used (live R G) : Int) + (m : Int) := ⟨_, rfl⟩
  obtain ⟨s2, hs2⟩ : ∃ s2 : Int, s2 = s1 + 8 := ⟨_, rfl⟩
  have hub : used (live R G) ≤ 3200 := by have := used_le (live R G) (fun r hr => hS.bs r (live_mem R G r hr)); have := live_len R G; have := hS.len; have := hS.le; omega
  have Ws1 := w_of (x := (used (live R G) : Int) + (m : Int)) (y := s1) (by omega) (by omega)
  have Ws2 := w_of (x := s1 + 8) (y := s2) (by omega) (by omega)
  have c1 : decide (room < s2) = true := decide_eq_true (by omega)
  have Wd := w_of (x := drops + 1) (y := d1) (by omega) (by omega)
  clear hs1 hs2 hub hm hu hd1 hd
  have hui := Try.underlying3
  have hul := Try.underlying32
  have hu8 := Try.underlying5
  have hub := Try.underlying4
  have hur := Try.underlying78
  have hurs := Try.underlying70
  have HO : Aside0 (Own w0 w ((gw, .cells #[.int .i64 room, .int .i64 drops, .slice A n c] 72 (0, 0)) :: (X ++ L))) := ⟨hO⟩
  have HS := Aside0.mk hS
  clear hO hS
  have v1 := Ws1.out.1; have v1b := Ws1.out.2; have v2 := Ws2.out.1; have v2b := Ws2.out.2; have v3 := Wd.out.1; have v3b := Wd.out.2
  go_enter Try.func52, Try.ntmps52
  go_wp2
  refine start_ (n := 10) (S := fun W => Own w0 W ((gw, .cells #[.int .i64 room, .int .i64 drops, .slice A n c] 72 (0, 0)) :: [])) (ds := []) #[false, false, false, false, false, false, false, false, false, false] (by kernel_rfl) rfl rfl (Own.drew (HO.out.picks (.cons (by (repeat (first | exact .head | apply Ext.tail))) (.nil)))) (fun hHeld => ?_)
  have HO_ := Aside0.mk HO.out.drew
  clear HO
  have HO := HO_
  clear HO_
  generalize World.drew _ = wr at HO hHeld ⊢
  refine Hp.pu_ 0 13 (Hp.up 10 1) ?_
  refine Hp.pu_ 2 15 #[true, false, true, false, false, false, false, false, false, false] ?_
  refine Hp.pu_ 5 18 #[true, false, true, false, false, true, false, false, false, false] ?_
  refine Hp.pu_ 6 19 #[true, false, true, false, false, true, true, false, false, false] ?_
  refine Hp.pu_ 7 20 #[true, false, true, false, false, true, true, true, false, false] ?_
  refine take_ (i := 8) (N := some 21) (v := .int .i64 room) (a' := ?_) #[true, false, true, false, false, true, true, true, true, false] rfl rfl (by kernel_rfl) (fun _ _ _ h => h) (own_yield1 (by rfl) (x := .tmp 20) rfl (by rfl) (.head) Try.underlying3 (by rfl) (by rfl)) hHeld ?_ ?_
  rotate_left
  · simp only [Act.put, List.setIfInBounds_toArray, List.set_cons_zero, List.set_cons_succ, i64_w, i32_w]
    rfl
  refine one_ (i := 1) (N := some 14) #[true, true, true, false, false, true, true, true, true, false] rfl rfl (by kernel_rfl) (by decide) (fun K hK => ?_)
  refine goes_ Try.func84 (by kernel_rfl) rfl #[.pointer (some ⟨gw, 0, none⟩)] (by rfl) rfl rfl (by (try simp only [List.map_toArray, List.map_cons, List.map_nil]); first | done | rfl) ?_
  refine (dused_calls w0 _ L X gw room drops A n c R G HS.out HO.out).mono ?_
  rintro e wx ⟨rfl, hO_⟩
  refine ⟨_, rfl, ?_⟩
  clear HO; have HO := Aside0.mk hO_; clear hO_
  refine hK.out _ _ (HO.out.picks (.cons (by (repeat (first | exact .head | apply Ext.tail))) (.nil))) (fun hHeld => ?_)
  clear hK K
  refine norm_ (a' := ?_) ?_ ?_
  rotate_left
  · show Act.put _ (some 14) _ = _
    simp only [Act.put, List.setIfInBounds_toArray, List.set_cons_zero, List.set_cons_succ, i64_w, i32_w]
    rfl
  refine Hp.pu_ 3 16 #[true, true, true, true, false, true, true, true, true, false] ?_
  refine Hp.pu_ 4 17 (Hp.up 10 9) ?_
  refine Hp.pu_ 9 22 (Hp.up 10 10) ?_
  refine done_ (by kernel_rfl) ?_
  clear hHeld
  go_wp2_with (first | ((with_reducible refine gate_dst (N := 26) rfl ?_); refine own_load HO.out rfl (x := .tmp 25) (v := .int .i64 drops) rfl (by rfl) (by (repeat (first | exact .head | apply Ext.tail))) hui (by rfl) (by rfl) ?_) | ((with_reducible refine gate_store (p := 29) rfl ?_); refine own_store HO.out rfl (ty := 3) (x := .tmp 29) (y := .tmp 27) (v := .int .i64 d1) (cs' := #[.int .i64 room, .int .i64 d1, .slice A n c]) rfl (by rfl) (by rfl) (by (repeat (first | exact .head | apply Ext.tail))) (by kernel_rfl) (by rfl) (by first | decide | (simp; done)) (by rfl) ?_; intro wc hO_; clear HO; have HO := Aside0.mk hO_; clear hO_))
  go_ret
  exact ⟨rfl, HO.out⟩
theorem dcells_app : ∀ (R : List Rc) (G : List Bool) (V : List Value) (r : Rc) (g : Bool) (v : Value), V.length = R.length → G.length = R.length → dcells (R ++ [r]) (G ++ [g]) (V ++ [v]) = dcells R G V ++ [.int .i64 r.ow, .int .i64 r.st, v, .bool g]
  | [], [], [], _, _, _, _, _ => rfl
  | q :: R, a :: G, u :: V, r, g, v, h1, h2 => by simp only [List.cons_append, dcells, dcells_app R G V r g v (by simpa using h1) (by simpa using h2)]
  | q :: R, _, [], _, _, _, h, _ => by cases h
  | q :: R, [], _, _, _, _, _, h => by cases h
  | [], _, u :: V, _, _, _, h, _ => by cases h
  | [], a :: G, _, _, _, _, _, h => by cases h
set_option maxHeartbeats 8000000 in
set_option maxRecDepth 100000 in
theorem dres_ok (w0 w : World) (L X : Hl) (gw : Nat) (room drops : Int) (A : Option Addr) (n c : Nat) (R : List Rc) (G : List Bool) (hS : DSt X A n c R G) (ow : Int) (m : Nat) (hm : 1 ≤ m ∧ m ≤ 32) (hn80 : n < 80) (hu : (used (live R G) : Int) + (m : Int) + 8 ≤ room) (hO : Own w0 w ((gw, .cells #[.int .i64 room, .int .i64 drops, .slice A n c] 72 (0, 0)) :: (X ++ L))) : Calls Try.prog 52 #[.pointer (some ⟨gw, 0, none⟩), .int .i64 ow, .int .i64 (m : Int)] w fun e w' => e = .returned (.int .i64 (n : Int)) ∧ ∃ X2 A2 n2 c2 R2 G2, n2 = n + 1 ∧ R2 = R ++ [⟨(n : Int), ow, 0, List.replicate m 0⟩] ∧ G2 = G ++ [false] ∧ DSt X2 A2 n2 c2 R2 G2 ∧ Own w0 w' ((gw, .cells #[.int .i64 room, .int .i64 drops, .slice A2 n2 c2] 72 (0, 0)) :: (X2 ++ L)) := by
  have m1 : decide ((m : Int) < 1) = false := decide_eq_false (by omega)
  have m2 : decide (32 < (m : Int)) = false := decide_eq_false (by omega)
  obtain ⟨s1, hs1⟩ : ∃ s1 : Int, s1 = (used (live R G) : Int) + (m : Int) := ⟨_, rfl⟩
  obtain ⟨s2, hs2⟩ : ∃ s2 : Int, s2 = s1 + 8 := ⟨_, rfl⟩
  have hub : used (live R G) ≤ 3200 := by have := used_le (live R G) (fun r hr => hS.bs r (live_mem R G r hr)); have := live_len R G; have := hS.len; have := hS.le; omega
  have Ws1 := w_of (x := (used (live R G) : Int) + (m : Int)) (y := s1) (by omega) (by omega)
  have Ws2 := w_of (x := s1 + 8) (y := s2) (by omega) (by omega)
  have c1 : decide (room < s2) = false := decide_eq_false (by omega)
  have Wx := w_of (x := ((n + 1 : Nat) : Int) - 1) (y := (n : Int)) (by omega) (by omega)
  have Wy := w_of (x := (n : Int)) (y := (n : Int)) rfl (by omega)
  have HM := Aside0.mk hm
  have H80 := Aside0.mk hn80
  have H81 : Aside0 (n + 1 ≤ maxLen ∧ (n + 1) * 48 ≤ 140737488355328) := ⟨⟨by show n + 1 ≤ 9223372036854775807; omega, by omega⟩⟩
  clear hs1 hs2 hub hm hu hn80
  have hui := Try.underlying3
  have hul := Try.underlying32
  have hu8 := Try.underlying5
  have hub := Try.underlying4
  have hur := Try.underlying78
  have hurs := Try.underlying70
  have HO : Aside0 (Own w0 w ((gw, .cells #[.int .i64 room, .int .i64 drops, .slice A n c] 72 (0, 0)) :: (X ++ L))) := ⟨hO⟩
  have HS := Aside0.mk hS
  clear hO hS
  obtain ⟨RR, T, V, hX, hR, hB⟩ := HS.out.ex
  subst hX
  have HR := Aside0.mk hR
  have HB := Aside0.mk hB
  clear hR hB
  have v1 := Ws1.out.1; have v1b := Ws1.out.2; have v2 := Ws2.out.1; have v2b := Ws2.out.2; have v3 := Wx.out.1; have v3b := Wx.out.2; have v4 := Wy.out.1; have v4b := Wy.out.2
  go_enter Try.func52, Try.ntmps52
  go_wp2
  refine start_ (n := 10) (S := fun W => Own w0 W ((gw, .cells #[.int .i64 room, .int .i64 drops, .slice A n c] 72 (0, 0)) :: [])) (ds := []) #[false, false, false, false, false, false, false, false, false, false] (by kernel_rfl) rfl rfl (Own.drew (HO.out.picks (.cons (by (repeat (first | exact .head | apply Ext.tail))) (.nil)))) (fun hHeld => ?_)
  have HO_ := Aside0.mk HO.out.drew
  clear HO
  have HO := HO_
  clear HO_
  generalize World.drew _ = wr at HO hHeld ⊢
  refine Hp.pu_ 0 13 (Hp.up 10 1) ?_
  refine Hp.pu_ 2 15 #[true, false, true, false, false, false, false, false, false, false] ?_
  refine Hp.pu_ 5 18 #[true, false, true, false, false, true, false, false, false, false] ?_
  refine Hp.pu_ 6 19 #[true, false, true, false, false, true, true, false, false, false] ?_
  refine Hp.pu_ 7 20 #[true, false, true, false, false, true, true, true, false, false] ?_
  refine take_ (i := 8) (N := some 21) (v := .int .i64 room) (a' := ?_) #[true, false, true, false, false, true, true, true, true, false] rfl rfl (by kernel_rfl) (fun _ _ _ h => h) (own_yield1 (by rfl) (x := .tmp 20) rfl (by rfl) (.head) Try.underlying3 (by rfl) (by rfl)) hHeld ?_ ?_
  rotate_left
  · simp only [Act.put, List.setIfInBounds_toArray, List.set_cons_zero, List.set_cons_succ, i64_w, i32_w]
    rfl
  refine one_ (i := 1) (N := some 14) #[true, true, true, false, false, true, true, true, true, false] rfl rfl (by kernel_rfl) (by decide) (fun K hK => ?_)
  refine goes_ Try.func84 (by kernel_rfl) rfl #[.pointer (some ⟨gw, 0, none⟩)] (by rfl) rfl rfl (by (try simp only [List.map_toArray, List.map_cons, List.map_nil]); first | done | rfl) ?_
  refine (dused_calls w0 _ L (RR ++ T) gw room drops A n c R G HS.out HO.out).mono ?_
  rintro e wx ⟨rfl, hO_⟩
  refine ⟨_, rfl, ?_⟩
  clear HO; have HO := Aside0.mk hO_; clear hO_
  refine hK.out _ _ (HO.out.picks (.cons (by (repeat (first | exact .head | apply Ext.tail))) (.nil))) (fun hHeld => ?_)
  clear hK K
  refine norm_ (a' := ?_) ?_ ?_
  rotate_left
  · show Act.put _ (some 14) _ = _
    simp only [Act.put, List.setIfInBounds_toArray, List.set_cons_zero, List.set_cons_succ, i64_w, i32_w]
    rfl
  refine Hp.pu_ 3 16 #[true, true, true, true, false, true, true, true, true, false] ?_
  refine Hp.pu_ 4 17 (Hp.up 10 9) ?_
  refine Hp.pu_ 9 22 (Hp.up 10 10) ?_
  refine done_ (by kernel_rfl) ?_
  clear hHeld
  go_wp2
  have hO_ := HO.out
  simp only [List.append_assoc] at hO_
  clear HO; have HO := Aside0.mk hO_; clear hO_
  try go_wp2
  refine start_ (n := 14) (S := fun W => Own w0 W ((gw, .cells #[.int .i64 room, .int .i64 drops, .slice A n c] 72 (0, 0)) :: [])) (ds := [13]) #[false, false, false, false, false, false, false, false, false, false, false, false, false, false] (by kernel_rfl) rfl rfl (Own.drew (HO.out.picks (.cons (by (repeat (first | exact .head | apply Ext.tail))) (.nil)))) (fun hHeld => ?_)
  have HO_ := Aside0.mk HO.out.drew
  clear HO
  have HO := HO_
  clear HO_
  generalize World.drew _ = wr at HO hHeld ⊢
  refine Hp.pu_ 0 30 (Hp.up 14 1) ?_
  refine Hp.pu_ 1 31 (Hp.up 14 2) ?_
  refine Hp.pu_ 2 32 (Hp.up 14 3) ?_
  refine Hp.pu_ 3 33 (Hp.up 14 4) ?_
  refine take_ (i := 4) (N := some 34) (v := .slice A n c) (a' := ?_) (Hp.up 14 5) rfl rfl (by kernel_rfl) (fun _ _ _ h => h) (own_yield1 (by rfl) (x := .tmp 33) rfl (by rfl) (.head) Try.underlying70 (by rfl) (by rfl)) hHeld ?_ ?_
  rotate_left
  · simp only [Act.put, List.setIfInBounds_toArray, List.set_cons_zero, List.set_cons_succ, i64_w, i32_w]
    rfl
  refine Hp.pu_ 5 35 (Hp.up 14 6) ?_
  refine Hp.pu_ 6 36 (Hp.up 14 7) ?_
  refine one_ (i := 7) (N := some 37) (Hp.up 14 8) rfl rfl (by kernel_rfl) (by decide) (fun K hK => ?_)
  refine own_make_k (z := .int .u8 0) (size := 1) (bytes := 1) (n := m) HO.out (by rfl) (M := 37) rfl rfl hul (by kernel_rfl) rfl (by rfl) (by rfl) (by have := HM.out; omega) (by have := HM.out; show m ≤ 9223372036854775807; omega) (made_u8 m) ?_
  intro g37 w37 hO_
  clear HO; have HO := Aside0.mk hO_; clear hO_
  refine hK.out _ _ (HO.out.picks (.cons (by (repeat (first | exact .head | apply Ext.tail))) (.nil))) (fun hHeld => ?_)
  clear hK K
  refine norm_ (a' := ?_) ?_ ?_
  rotate_left
  · show Act.put _ (some 37) _ = _
    simp only [Act.put, List.setIfInBounds_toArray, List.set_cons_zero, List.set_cons_succ, i64_w, i32_w]
    rfl
  refine Hp.pu_ 8 38 (Hp.up 14 9) ?_
  refine one_ (i := 9) (N := some 39) (Hp.up 14 10) rfl rfl (by kernel_rfl) (by decide) (fun K hK => ?_)
  refine own_lit_k HO.out (by rfl) (N := 39) rfl (cs := #[.int .i64 ow, .int .i64 0, .slice (some ⟨g37, 0, none⟩) m m, .bool false]) (t := 78) (n := 1) (m := 1) (by first | (go_simp; done) | (go_simp; rfl) | kernel_rfl) ?_
  intro g39 w39 hO_
  clear HO; have HO := Aside0.mk hO_; clear hO_
  refine hK.out _ _ (HO.out.picks (.cons (by (repeat (first | exact .head | apply Ext.tail))) (.nil))) (fun hHeld => ?_)
  clear hK K
  refine norm_ (a' := ?_) ?_ ?_
  rotate_left
  · show Act.put _ (some 39) _ = _
    simp only [Act.put, List.setIfInBounds_toArray, List.set_cons_zero, List.set_cons_succ, i64_w, i32_w]
    rfl
  refine one_ (i := 10) (N := some 40) (Hp.up 14 11) rfl rfl (by kernel_rfl) (by decide) (fun K hK => ?_)
  refine own_append_k (z := .agg #[.int .i64 0, .int .i64 0, .slice none 0 0, .bool false]) (size := 4) (bytes := 48) (R := RR) (L := T ++ L) [(g39, .cells #[.int .i64 ow, .int .i64 0, .slice (some ⟨g37, 0, none⟩) m m, .bool false] 78 (0, 0)), (g37, .cells (u8s (List.replicate m 0)) 5 (0, 0)), (gw, .cells #[.int .i64 room, .int .i64 drops, .slice A n c] 72 (0, 0))] HO.out (by rfl) (N := 40) rfl rfl hurs (by kernel_rfl) rfl (by rfl) HR.out (by rfl) (HO.out.src hurs .head 0 1 1 [.int .i64 ow, .int .i64 0, .slice (some ⟨g37, 0, none⟩) m m, .bool false] rfl rfl (by simp [Value.oneCell'])) H81.out.1 H81.out.2 ?_
  intro v2 R2 wc hR2 hO_
  obtain ⟨A2, c2, rfl⟩ := RowOf.shape hR2
  have HR2 := Aside0.mk hR2
  clear hR2
  have hO_ : Own w0 wc ((g39, .cells #[.int .i64 ow, .int .i64 0, .slice (some ⟨g37, 0, none⟩) m m, .bool false] 78 (0, 0)) :: (g37, .cells (u8s (List.replicate m 0)) 5 (0, 0)) :: (gw, .cells #[.int .i64 room, .int .i64 drops, .slice A n c] 72 (0, 0)) :: (R2 ++ (T ++ L))) := hO_
  clear HO; have HO := Aside0.mk hO_; clear hO_
  refine hK.out _ _ (HO.out.picks (.cons (by (repeat (first | exact .head | apply Ext.tail))) (.nil))) (fun hHeld => ?_)
  clear hK K
  refine norm_ (a' := ?_) ?_ ?_
  rotate_left
  · show Act.put _ (some 40) _ = _
    simp only [Act.put, List.setIfInBounds_toArray, List.set_cons_zero, List.set_cons_succ, i64_w, i32_w]
    rfl
  refine Hp.pu_ 11 41 (Hp.up 14 12) ?_
  refine Hp.pu_ 12 42 (Hp.up 14 13) ?_
  refine last_ (i := 13) (N := none) (Hp.up 14 14) rfl rfl (by kernel_rfl) (by decide) (fun K hK => ?_)
  refine own_store_k HO.out (by rfl) rfl (ty := 70) (x := .tmp 42) (y := .tmp 40) (v := .slice A2 (n + 1) c2) (cs' := #[.int .i64 room, .int .i64 drops, .slice A2 (n + 1) c2]) rfl (by rfl) (by rfl) (by (repeat (first | exact .head | apply Ext.tail))) (by kernel_rfl) (by rfl) (by first | decide | (simp; done)) (by rfl) ?_
  intro wc hO_
  clear HO; have HO := Aside0.mk hO_; clear hO_
  refine hK.out _ _ ?_
  clear hK K
  refine done_ (by kernel_rfl) ?_
  clear hHeld
  go_wp2_with (first | ((with_reducible refine gate_dst (N := 46) rfl ?_); refine own_load HO.out rfl (x := .tmp 45) (v := .slice A2 (n + 1) c2) rfl (by rfl) (by (repeat (first | exact .head | apply Ext.tail))) hurs (by rfl) (by rfl) ?_))
  go_ret
  refine ⟨rfl, _, A2, _, c2, _, _, rfl, rfl, rfl, ⟨⟨R2, T ++ ([(g37, .cells (u8s (List.replicate m 0)) 5 (0, 0))] ++ []), V ++ [.slice (some ⟨g37, 0, none⟩) m m], rfl, ?_, HB.out.app (BSt.cons ?_ .nil)⟩, by rw [List.length_append, HS.out.len]; rfl, by rw [List.length_append, HS.out.glen]; rfl, H80.out, ?_, ?_⟩, ?_⟩
  · rw [dcells_app _ _ _ _ _ _ HB.out.len (by rw [HS.out.glen, HS.out.len])]
    exact HR2.out
  · have := row_u8 (g := g37) (N := m) (B := List.replicate m 0) (by simp) (by have := HM.out; omega)
    simpa using this
  · intro q hq
    rcases List.mem_append.1 hq with hq | hq
    · exact HS.out.bs q hq
    · rw [List.mem_singleton.1 hq]
      simp only [List.length_replicate]
      exact HM.out.2
  · intro j q hq
    rw [List.getElem?_append] at hq
    split at hq
    · exact HS.out.ids j q hq
    · rename_i hj
      have hl := HS.out.len
      rcases Nat.eq_or_lt_of_le (Nat.le_of_not_lt hj) with h | h
      · rw [← h, Nat.sub_self] at hq
        cases hq
        show (n : Int) = (j : Int)
        rw [← h, hl]
      · rw [List.getElem?_eq_none (by simp; omega)] at hq
        cases hq
  · exact HO.out.newblk2
end Go.Proofs.Rg
