/- Contracts of the ring's methods (ring.Ring), the second half: Reserve, Drain. -/
import Derived.Test.YtgkdbhkbkpfbpaaRG
import Derived.Deep.LoopGhost
import Derived.WalkMore
set_option linter.unusedVariables false
set_option linter.unusedSimpArgs false
namespace Go.Proofs.Rg
open Go.RowKit Go.Proofs.Ev Go.Proofs.Hp Go.Proofs.Ar Go.Proofs.YtgkdbhkbkpfbpaaW.PrintWords Go.Proofs.YtgkdbhkbkpfbpaaW.PrintLast Go.Proofs.YtgkdbhkbkpfbpaaW.PrintMore
attribute [local go_sem] max2_int min2_int max_two min_two max_three min_three max_four min_four eql_slice_nil
theorem used_ge : ∀ R : List Rc, 8 * R.length ≤ used R
  | [] => Nat.le_refl _
  | r :: R => by have := used_ge R; simp only [used, List.length_cons]; omega
theorem newblk_perm {a x b : Nat × Obj} {R K L : Hl} : (b :: (R ++ (K ++ L))).Perm (R ++ ((K ++ [b]) ++ L)) := by
  have e : R ++ ((K ++ [b]) ++ L) = (R ++ K) ++ b :: L := by simp
  rw [e]
  refine List.Perm.trans ?_ List.perm_middle.symm
  simp
theorem _root_.Go.Proofs.Hp.Own.newblk2 {w0 W : World} {a x b : Nat × Obj} {R K L : Hl} (h : Own w0 W (a :: x :: b :: (R ++ (K ++ L)))) : Own w0 W (a :: ((R ++ (K ++ [b])) ++ L)) := by
  have h1 : Own w0 W (a :: b :: (R ++ (K ++ L))) := (h.perm (List.Perm.swap _ _ _)).drop
  have h2 := h1.perm (List.Perm.cons a (newblk_perm (a := a) (x := x)))
  simpa using h2
set_option maxHeartbeats 8000000 in
set_option maxRecDepth 100000 in
theorem reserve_bad (w0 w : World) (L X : Hl) (gr : Nat) (room drops nxt : Int) (A : Option Addr) (n c : Nat) (R : List Rc) (hS : RSt X A n c R) (ow m : Int) (hm : ¬ (1 ≤ m ∧ m ≤ 32)) (hO : Own w0 w ((gr, .cells #[.int .i64 room, .int .i64 drops, .int .i64 nxt, .slice A n c] 133 (0, 0)) :: (X ++ L))) : Calls Try.prog 26 #[.pointer (some ⟨gr, 0, none⟩), .int .i64 ow, .int .i64 m] w fun e w' => e = .returned (.tuple #[.int .i64 0, .bool false]) ∧ Own w0 w' ((gr, .cells #[.int .i64 room, .int .i64 drops, .int .i64 nxt, .slice A n c] 133 (0, 0)) :: (X ++ L)) := by
  by_cases h1 : m < 1
  · have m1 : decide (m < 1) = true := decide_eq_true h1
    clear hm h1
    go_enter Try.func26, Try.ntmps26
    go_wp2
    refine bodyPost_ret (results_tmp2 rfl _ _ _) rfl ?_
    exact ⟨rfl, hO⟩
  · have m1 : decide (m < 1) = false := decide_eq_false h1
    have m2 : decide (32 < m) = true := decide_eq_true (by omega)
    clear hm h1
    go_enter Try.func26, Try.ntmps26
    go_wp2
    refine bodyPost_ret (results_tmp2 rfl _ _ _) rfl ?_
    exact ⟨rfl, hO⟩
set_option maxHeartbeats 8000000 in
set_option maxRecDepth 100000 in
theorem reserve_full (w0 w : World) (L X : Hl) (gr : Nat) (room drops nxt : Int) (A : Option Addr) (n c : Nat) (R : List Rc) (hS : RSt X A n c R) (ow : Int) (m : Nat) (hm : 1 ≤ m ∧ m ≤ 32) (d1 : Int) (hd1 : d1 = drops + 1) (hd : 0 ≤ drops ∧ drops ≤ 100000) (hu : ¬ ((used R : Int) + (m : Int) + 8 ≤ room)) (hO : Own w0 w ((gr, .cells #[.int .i64 room, .int .i64 drops, .int .i64 nxt, .slice A n c] 133 (0, 0)) :: (X ++ L))) : Calls Try.prog 26 #[.pointer (some ⟨gr, 0, none⟩), .int .i64 ow, .int .i64 (m : Int)] w fun e w' => e = .returned (.tuple #[.int .i64 0, .bool false]) ∧ Own w0 w' ((gr, .cells #[.int .i64 room, .int .i64 d1, .int .i64 nxt, .slice A n c] 133 (0, 0)) :: (X ++ L)) := by
  have m1 : decide ((m : Int) < 1) = false := decide_eq_false (by omega)
  have m2 : decide (32 < (m : Int)) = false := decide_eq_false (by omega)
  obtain ⟨s1, hs1⟩ : ∃ s1 : Int, s1 = (used R : Int) + (m : Int) := ⟨_, rfl⟩
  obtain ⟨s2, hs2⟩ : ∃ s2 : Int, s2 = s1 + 8 := ⟨_, rfl⟩
  have hub : used R ≤ 2560 := by have := used_le R hS.bs; have := hS.len; have := hS.le; omega
  have Ws1 := w_of (x := (used R : Int) + (m : Int)) (y := s1) (by omega) (by omega)
  have Ws2 := w_of (x := s1 + 8) (y := s2) (by omega) (by omega)
  have c1 : decide (room < s2) = true := decide_eq_true (by omega)
  have Wd := w_of (x := drops + 1) (y := d1) (by omega) (by omega)
  clear hs1 hs2 hub hm hu hd1 hd
  have hui := Try.underlying3
  have hul := Try.underlying32
  have hu8 := Try.underlying5
  have hur := Try.underlying135
  have hurs := Try.underlying131
  have HO : Aside0 (Own w0 w ((gr, .cells #[.int .i64 room, .int .i64 drops, .int .i64 nxt, .slice A n c] 133 (0, 0)) :: (X ++ L))) := ⟨hO⟩
  have HS := Aside0.mk hS
  clear hO hS
  have v1 := Ws1.out.1; have v1b := Ws1.out.2; have v2 := Ws2.out.1; have v2b := Ws2.out.2; have v3 := Wd.out.1; have v3b := Wd.out.2
  go_enter Try.func26, Try.ntmps26
  go_wp2
  refine start_ (n := 10) (S := fun W => Own w0 W ((gr, .cells #[.int .i64 room, .int .i64 drops, .int .i64 nxt, .slice A n c] 133 (0, 0)) :: [])) (ds := []) #[false, false, false, false, false, false, false, false, false, false] (by kernel_rfl) rfl rfl (Own.drew (HO.out.picks (.cons (by (repeat (first | exact .head | apply Ext.tail))) (.nil)))) (fun hHeld => ?_)
  have HO_ := Aside0.mk HO.out.drew
  clear HO
  have HO := HO_
  clear HO_
  generalize World.drew _ = wr at HO hHeld ⊢
  refine Hp.pu_ 0 18 (Hp.up 10 1) ?_
  refine Hp.pu_ 2 20 #[true, false, true, false, false, false, false, false, false, false] ?_
  refine Hp.pu_ 5 23 #[true, false, true, false, false, true, false, false, false, false] ?_
  refine Hp.pu_ 6 24 #[true, false, true, false, false, true, true, false, false, false] ?_
  refine Hp.pu_ 7 25 #[true, false, true, false, false, true, true, true, false, false] ?_
  refine take_ (i := 8) (N := some 26) (v := .int .i64 room) (a' := ?_) #[true, false, true, false, false, true, true, true, true, false] rfl rfl (by kernel_rfl) (fun _ _ _ h => h) (own_yield1 (by rfl) (x := .tmp 25) rfl (by rfl) (.head) Try.underlying3 (by rfl) (by rfl)) hHeld ?_ ?_
  rotate_left
  · simp only [Act.put, List.setIfInBounds_toArray, List.set_cons_zero, List.set_cons_succ, i64_w, i32_w]
    rfl
  refine one_ (i := 1) (N := some 19) #[true, true, true, false, false, true, true, true, true, false] rfl rfl (by kernel_rfl) (by decide) (fun K hK => ?_)
  refine goes_ Try.func32 (by kernel_rfl) rfl #[.pointer (some ⟨gr, 0, none⟩)] (by rfl) rfl rfl (by (try simp only [List.map_toArray, List.map_cons, List.map_nil]); first | done | rfl) ?_
  refine (used_calls w0 _ L X gr room drops nxt A n c R HS.out HO.out).mono ?_
  rintro e wx ⟨rfl, hO_⟩
  refine ⟨_, rfl, ?_⟩
  clear HO; have HO := Aside0.mk hO_; clear hO_
  refine hK.out _ _ (HO.out.picks (.cons (by (repeat (first | exact .head | apply Ext.tail))) (.nil))) (fun hHeld => ?_)
  clear hK K
  refine norm_ (a' := ?_) ?_ ?_
  rotate_left
  · show Act.put _ (some 19) _ = _
    simp only [Act.put, List.setIfInBounds_toArray, List.set_cons_zero, List.set_cons_succ, i64_w, i32_w]
    rfl
  refine Hp.pu_ 3 21 #[true, true, true, true, false, true, true, true, true, false] ?_
  refine Hp.pu_ 4 22 (Hp.up 10 9) ?_
  refine Hp.pu_ 9 27 (Hp.up 10 10) ?_
  refine done_ (by kernel_rfl) ?_
  clear hHeld
  go_wp2_with (first | ((with_reducible refine gate_dst (N := 31) rfl ?_); refine own_load HO.out rfl (x := .tmp 30) (v := .int .i64 drops) rfl (by rfl) (by (repeat (first | exact .head | apply Ext.tail))) hui (by rfl) (by rfl) ?_) | ((with_reducible refine gate_store (p := 34) rfl ?_); refine own_store HO.out rfl (ty := 3) (x := .tmp 34) (y := .tmp 32) (v := .int .i64 d1) (cs' := #[.int .i64 room, .int .i64 d1, .int .i64 nxt, .slice A n c]) rfl (by rfl) (by rfl) (by (repeat (first | exact .head | apply Ext.tail))) (by kernel_rfl) (by rfl) (by first | decide | (simp; done)) (by rfl) ?_; intro wc hO_; clear HO; have HO := Aside0.mk hO_; clear hO_))
  refine bodyPost_ret (results_tmp2 rfl _ _ _) rfl ?_
  exact ⟨rfl, HO.out⟩
set_option maxHeartbeats 8000000 in
set_option maxRecDepth 100000 in
theorem reserve_ok (w0 w : World) (L X : Hl) (gr : Nat) (room drops nxt : Int) (A : Option Addr) (n c : Nat) (R : List Rc) (hS : RSt X A n c R) (ow : Int) (m : Nat) (hm : 1 ≤ m ∧ m ≤ 32) (x1 : Int) (hx1 : x1 = nxt + 1) (hn : 0 ≤ nxt ∧ nxt ≤ 100000) (hu : (used R : Int) + (m : Int) + 8 ≤ room) (hrm : room ≤ 256) (hO : Own w0 w ((gr, .cells #[.int .i64 room, .int .i64 drops, .int .i64 nxt, .slice A n c] 133 (0, 0)) :: (X ++ L))) : Calls Try.prog 26 #[.pointer (some ⟨gr, 0, none⟩), .int .i64 ow, .int .i64 (m : Int)] w fun e w' => e = .returned (.tuple #[.int .i64 nxt, .bool true]) ∧ ∃ X2 A2 c2, RSt X2 A2 (n + 1) c2 (R ++ [⟨nxt, ow, 0, List.replicate m 0⟩]) ∧ Own w0 w' ((gr, .cells #[.int .i64 room, .int .i64 drops, .int .i64 x1, .slice A2 (n + 1) c2] 133 (0, 0)) :: (X2 ++ L)) := by
  have m1 : decide ((m : Int) < 1) = false := decide_eq_false (by omega)
  have m2 : decide (32 < (m : Int)) = false := decide_eq_false (by omega)
  obtain ⟨s1, hs1⟩ : ∃ s1 : Int, s1 = (used R : Int) + (m : Int) := ⟨_, rfl⟩
  obtain ⟨s2, hs2⟩ : ∃ s2 : Int, s2 = s1 + 8 := ⟨_, rfl⟩
  have hub : used R ≤ 2560 := by have := used_le R hS.bs; have := hS.len; have := hS.le; omega
  have Ws1 := w_of (x := (used R : Int) + (m : Int)) (y := s1) (by omega) (by omega)
  have Ws2 := w_of (x := s1 + 8) (y := s2) (by omega) (by omega)
  have c1 : decide (room < s2) = false := decide_eq_false (by omega)
  have HNB : Aside0 (n + 1 ≤ 64) := ⟨by have := used_ge R; have := hS.len; omega⟩
  have Wx := w_of (x := nxt + 1) (y := x1) (by omega) (by omega)
  have Wy := w_of (x := x1 - 1) (y := nxt) (by omega) (by omega)
  have HM := Aside0.mk hm
  clear hs1 hs2 hub hm hu hx1 hn hrm
  have hui := Try.underlying3
  have hul := Try.underlying32
  have hu8 := Try.underlying5
  have hur := Try.underlying135
  have hurs := Try.underlying131
  have HO : Aside0 (Own w0 w ((gr, .cells #[.int .i64 room, .int .i64 drops, .int .i64 nxt, .slice A n c] 133 (0, 0)) :: (X ++ L))) := ⟨hO⟩
  have HS := Aside0.mk hS
  clear hO hS
  obtain ⟨RR, T, V, hX, hR, hB⟩ := HS.out.ex
  subst hX
  have HR := Aside0.mk hR
  have HB := Aside0.mk hB
  clear hR hB
  have v1 := Ws1.out.1; have v1b := Ws1.out.2; have v2 := Ws2.out.1; have v2b := Ws2.out.2; have v3 := Wx.out.1; have v3b := Wx.out.2; have v4 := Wy.out.1; have v4b := Wy.out.2
  go_enter Try.func26, Try.ntmps26
  go_wp2
  refine start_ (n := 10) (S := fun W => Own w0 W ((gr, .cells #[.int .i64 room, .int .i64 drops, .int .i64 nxt, .slice A n c] 133 (0, 0)) :: [])) (ds := []) #[false, false, false, false, false, false, false, false, false, false] (by kernel_rfl) rfl rfl (Own.drew (HO.out.picks (.cons (by (repeat (first | exact .head | apply Ext.tail))) (.nil)))) (fun hHeld => ?_)
  have HO_ := Aside0.mk HO.out.drew
  clear HO
  have HO := HO_
  clear HO_
  generalize World.drew _ = wr at HO hHeld ⊢
  refine Hp.pu_ 0 18 (Hp.up 10 1) ?_
  refine Hp.pu_ 2 20 #[true, false, true, false, false, false, false, false, false, false] ?_
  refine Hp.pu_ 5 23 #[true, false, true, false, false, true, false, false, false, false] ?_
  refine Hp.pu_ 6 24 #[true, false, true, false, false, true, true, false, false, false] ?_
  refine Hp.pu_ 7 25 #[true, false, true, false, false, true, true, true, false, false] ?_
  refine take_ (i := 8) (N := some 26) (v := .int .i64 room) (a' := ?_) #[true, false, true, false, false, true, true, true, true, false] rfl rfl (by kernel_rfl) (fun _ _ _ h => h) (own_yield1 (by rfl) (x := .tmp 25) rfl (by rfl) (.head) Try.underlying3 (by rfl) (by rfl)) hHeld ?_ ?_
  rotate_left
  · simp only [Act.put, List.setIfInBounds_toArray, List.set_cons_zero, List.set_cons_succ, i64_w, i32_w]
    rfl
  refine one_ (i := 1) (N := some 19) #[true, true, true, false, false, true, true, true, true, false] rfl rfl (by kernel_rfl) (by decide) (fun K hK => ?_)
  refine goes_ Try.func32 (by kernel_rfl) rfl #[.pointer (some ⟨gr, 0, none⟩)] (by rfl) rfl rfl (by (try simp only [List.map_toArray, List.map_cons, List.map_nil]); first | done | rfl) ?_
  refine (used_calls w0 _ L (RR ++ T) gr room drops nxt A n c R HS.out HO.out).mono ?_
  rintro e wx ⟨rfl, hO_⟩
  refine ⟨_, rfl, ?_⟩
  clear HO; have HO := Aside0.mk hO_; clear hO_
  refine hK.out _ _ (HO.out.picks (.cons (by (repeat (first | exact .head | apply Ext.tail))) (.nil))) (fun hHeld => ?_)
  clear hK K
  refine norm_ (a' := ?_) ?_ ?_
  rotate_left
  · show Act.put _ (some 19) _ = _
    simp only [Act.put, List.setIfInBounds_toArray, List.set_cons_zero, List.set_cons_succ, i64_w, i32_w]
    rfl
  refine Hp.pu_ 3 21 #[true, true, true, true, false, true, true, true, true, false] ?_
  refine Hp.pu_ 4 22 (Hp.up 10 9) ?_
  refine Hp.pu_ 9 27 (Hp.up 10 10) ?_
  refine done_ (by kernel_rfl) ?_
  clear hHeld
  go_wp2
  have hO_ := HO.out
  simp only [List.append_assoc] at hO_
  clear HO; have HO := Aside0.mk hO_; clear hO_
  try go_wp2
  refine start_ (n := 18) (S := fun W => Own w0 W ((gr, .cells #[.int .i64 room, .int .i64 drops, .int .i64 nxt, .slice A n c] 133 (0, 0)) :: [])) (ds := [17]) #[false, false, false, false, false, false, false, false, false, false, false, false, false, false, false, false, false, false] (by kernel_rfl) rfl rfl (Own.drew (HO.out.picks (.cons (by (repeat (first | exact .head | apply Ext.tail))) (.nil)))) (fun hHeld => ?_)
  have HO_ := Aside0.mk HO.out.drew
  clear HO
  have HO := HO_
  clear HO_
  generalize World.drew _ = wr at HO hHeld ⊢
  refine Hp.pu_ 0 35 (Hp.up 18 1) ?_
  refine Hp.pu_ 1 36 (Hp.up 18 2) ?_
  refine Hp.pu_ 2 37 (Hp.up 18 3) ?_
  refine Hp.pu_ 3 38 (Hp.up 18 4) ?_
  refine take_ (i := 4) (N := some 39) (v := .slice A n c) (a' := ?_) (Hp.up 18 5) rfl rfl (by kernel_rfl) (fun _ _ _ h => h) (own_yield1 (by rfl) (x := .tmp 38) rfl (by rfl) (.head) Try.underlying131 (by rfl) (by rfl)) hHeld ?_ ?_
  rotate_left
  · simp only [Act.put, List.setIfInBounds_toArray, List.set_cons_zero, List.set_cons_succ, i64_w, i32_w]
    rfl
  refine Hp.pu_ 5 40 (Hp.up 18 6) ?_
  refine Hp.pu_ 6 41 (Hp.up 18 7) ?_
  refine Hp.pu_ 7 42 (Hp.up 18 8) ?_
  refine take_ (i := 8) (N := some 43) (v := .int .i64 nxt) (a' := ?_) (Hp.up 18 9) rfl rfl (by kernel_rfl) (fun _ _ _ h => h) (own_yield1 (by rfl) (x := .tmp 42) rfl (by rfl) (.head) Try.underlying3 (by rfl) (by rfl)) hHeld ?_ ?_
  rotate_left
  · simp only [Act.put, List.setIfInBounds_toArray, List.set_cons_zero, List.set_cons_succ, i64_w, i32_w]
    rfl
  refine Hp.pu_ 9 44 (Hp.up 18 10) ?_
  refine Hp.pu_ 10 45 (Hp.up 18 11) ?_
  refine one_ (i := 11) (N := some 46) (Hp.up 18 12) rfl rfl (by kernel_rfl) (by decide) (fun K hK => ?_)
  refine own_make_k (z := .int .u8 0) (size := 1) (bytes := 1) (n := m) HO.out (by rfl) (M := 46) rfl rfl hul (by kernel_rfl) rfl (by rfl) (by rfl) (by have := HM.out; omega) (by have := HM.out; show m ≤ 9223372036854775807; omega) (made_u8 m) ?_
  intro g46 w46 hO_
  clear HO; have HO := Aside0.mk hO_; clear hO_
  refine hK.out _ _ (HO.out.picks (.cons (by (repeat (first | exact .head | apply Ext.tail))) (.nil))) (fun hHeld => ?_)
  clear hK K
  refine norm_ (a' := ?_) ?_ ?_
  rotate_left
  · show Act.put _ (some 46) _ = _
    simp only [Act.put, List.setIfInBounds_toArray, List.set_cons_zero, List.set_cons_succ, i64_w, i32_w]
    rfl
  refine Hp.pu_ 12 47 (Hp.up 18 13) ?_
  refine one_ (i := 13) (N := some 48) (Hp.up 18 14) rfl rfl (by kernel_rfl) (by decide) (fun K hK => ?_)
  refine own_lit_k HO.out (by rfl) (N := 48) rfl (cs := #[.int .i64 nxt, .int .i64 ow, .int .i64 0, .slice (some ⟨g46, 0, none⟩) m m]) (t := 135) (n := 1) (m := 1) (by first | (go_simp; done) | (go_simp; rfl) | kernel_rfl) ?_
  intro g48 w48 hO_
  clear HO; have HO := Aside0.mk hO_; clear hO_
  refine hK.out _ _ (HO.out.picks (.cons (by (repeat (first | exact .head | apply Ext.tail))) (.nil))) (fun hHeld => ?_)
  clear hK K
  refine norm_ (a' := ?_) ?_ ?_
  rotate_left
  · show Act.put _ (some 48) _ = _
    simp only [Act.put, List.setIfInBounds_toArray, List.set_cons_zero, List.set_cons_succ, i64_w, i32_w]
    rfl
  refine one_ (i := 14) (N := some 49) (Hp.up 18 15) rfl rfl (by kernel_rfl) (by decide) (fun K hK => ?_)
  refine own_append_k (z := .agg #[.int .i64 0, .int .i64 0, .int .i64 0, .slice none 0 0]) (size := 4) (bytes := 48) (R := RR) (L := T ++ L) [(g48, .cells #[.int .i64 nxt, .int .i64 ow, .int .i64 0, .slice (some ⟨g46, 0, none⟩) m m] 135 (0, 0)), (g46, .cells (u8s (List.replicate m 0)) 5 (0, 0)), (gr, .cells #[.int .i64 room, .int .i64 drops, .int .i64 nxt, .slice A n c] 133 (0, 0))] HO.out (by rfl) (N := 49) rfl rfl hurs (by kernel_rfl) rfl (by rfl) HR.out (by rfl) (HO.out.src hurs .head 0 1 1 [.int .i64 nxt, .int .i64 ow, .int .i64 0, .slice (some ⟨g46, 0, none⟩) m m] rfl rfl (by simp [Value.oneCell'])) (by have := HS.out.le; show n + 1 ≤ 9223372036854775807; omega) (by have := HS.out.le; omega) ?_
  intro v2 R2 wc hR2 hO_
  obtain ⟨A2, c2, rfl⟩ := RowOf.shape hR2
  have HR2 := Aside0.mk hR2
  clear hR2
  have hO_ : Own w0 wc ((g48, .cells #[.int .i64 nxt, .int .i64 ow, .int .i64 0, .slice (some ⟨g46, 0, none⟩) m m] 135 (0, 0)) :: (g46, .cells (u8s (List.replicate m 0)) 5 (0, 0)) :: (gr, .cells #[.int .i64 room, .int .i64 drops, .int .i64 nxt, .slice A n c] 133 (0, 0)) :: (R2 ++ (T ++ L))) := hO_
  clear HO; have HO := Aside0.mk hO_; clear hO_
  refine hK.out _ _ (HO.out.picks (.cons (by (repeat (first | exact .head | apply Ext.tail))) (.nil))) (fun hHeld => ?_)
  clear hK K
  refine norm_ (a' := ?_) ?_ ?_
  rotate_left
  · show Act.put _ (some 49) _ = _
    simp only [Act.put, List.setIfInBounds_toArray, List.set_cons_zero, List.set_cons_succ, i64_w, i32_w]
    rfl
  refine Hp.pu_ 15 50 (Hp.up 18 16) ?_
  refine Hp.pu_ 16 51 (Hp.up 18 17) ?_
  refine last_ (i := 17) (N := none) (Hp.up 18 18) rfl rfl (by kernel_rfl) (by decide) (fun K hK => ?_)
  refine own_store_k HO.out (by rfl) rfl (ty := 131) (x := .tmp 51) (y := .tmp 49) (v := .slice A2 (n + 1) c2) (cs' := #[.int .i64 room, .int .i64 drops, .int .i64 nxt, .slice A2 (n + 1) c2]) rfl (by rfl) (by rfl) (by (repeat (first | exact .head | apply Ext.tail))) (by kernel_rfl) (by rfl) (by first | decide | (simp; done)) (by rfl) ?_
  intro wc hO_
  clear HO; have HO := Aside0.mk hO_; clear hO_
  refine hK.out _ _ ?_
  clear hK K
  refine done_ (by kernel_rfl) ?_
  clear hHeld
  go_wp2_with (first | ((with_reducible refine gate_dst (N := 55) rfl ?_); refine own_load HO.out rfl (x := .tmp 54) (v := .int .i64 nxt) rfl (by rfl) (by (repeat (first | exact .head | apply Ext.tail))) hui (by rfl) (by rfl) ?_) | ((with_reducible refine gate_store (p := 58) rfl ?_); refine own_store HO.out rfl (ty := 3) (x := .tmp 58) (y := .tmp 56) (v := .int .i64 x1) (cs' := #[.int .i64 room, .int .i64 drops, .int .i64 x1, .slice A2 (n + 1) c2]) rfl (by rfl) (by rfl) (by (repeat (first | exact .head | apply Ext.tail))) (by kernel_rfl) (by rfl) (by first | decide | (simp; done)) (by rfl) ?_; intro wc hO_; clear HO; have HO := Aside0.mk hO_; clear hO_) | ((with_reducible refine gate_dst (N := 62) rfl ?_); refine own_load HO.out rfl (x := .tmp 61) (v := .int .i64 x1) rfl (by rfl) (by (repeat (first | exact .head | apply Ext.tail))) hui (by rfl) (by rfl) ?_))
  refine bodyPost_ret (results_tmp2 rfl _ _ _) rfl ?_
  refine ⟨rfl, _, A2, c2, ⟨⟨R2, T ++ ([(g46, .cells (u8s (List.replicate m 0)) 5 (0, 0))] ++ []), V ++ [.slice (some ⟨g46, 0, none⟩) m m], rfl, ?_, HB.out.app (BSt.cons ?_ .nil)⟩, by rw [List.length_append, HS.out.len]; rfl, HNB.out, ?_⟩, ?_⟩
  · rw [rcells_app _ _ _ _ HB.out.len]
    exact HR2.out
  · have := row_u8 (g := g46) (N := m) (B := List.replicate m 0) (by simp) (by have := HM.out; omega)
    simpa using this
  · intro q hq
    rcases List.mem_append.1 hq with hq | hq
    · exact HS.out.bs q hq
    · rw [List.mem_singleton.1 hq]
      simp only [List.length_replicate]
      exact HM.out.2
  · exact HO.out.newblk2
section
variable {P : Program} {ops : Array Oper} {rest : List Oper} {o : Oper} {a : Act} {W : World}
theorem exec_slicey {t e : TypeId} {x : Operand} {lo hi mx : Option Operand} {A : Option Addr} {n cap size : Nat} {l h m : Nat} (ho : o.op = .slice t x lo hi mx) (ht : P.underlying t = some (.slice e)) (hi' : (P.info? e).map (·.size) = some size)
    (hx : a.eval x = .slice A n cap) (hb : (Instr.sliceBounds true n cap (lo.map a.eval) (hi.map a.eval) (mx.map a.eval)).run P W = .ok (l, h, m) W) {v : Value} (hv : .slice (if m = l then A else A.map (·.add (l * size))) (h - l) (m - l) = v) :
    (execOp a.eval o).run P W = .ok (.value v) W := by
  subst hv
  have hel : P.elem t = e := by unfold Program.elem; rw [ht]
  have ht' : P.underlying t = some (.slice (P.elem t)) := by rw [hel]; exact ht
  obtain ⟨ti, ht1, ht2⟩ : ∃ ti, P.info? e = some ti ∧ ti.size = size := by
    cases hq : P.info? e with
    | none => rw [hq] at hi'; simp at hi'
    | some ti => exact ⟨ti, rfl, by rw [hq] at hi'; simpa using hi'⟩
  have hs : (sizeOf e).run P W = .ok size W := by
    have := run_sizeOf W ht1
    rw [this]
    simp [Program.cellsOf, ht1, ht2]
  have hrun : (Instr.sliceAt t (.slice A n cap) (lo.map a.eval) (hi.map a.eval) (mx.map a.eval)).run P W = .ok (.slice (if m = l then A else A.map (·.add (l * size))) (h - l) (m - l)) W := by
    rw [run_sliceAt_slice W t _ _ _ _ ht', run_slice_any W t A n cap ht', hb, hel]
    simp only [Result.andThen, hs, sliced]
  unfold execOp
  rw [ho]
  simp only [hx, hrun, Sem.run_bind, Result.andThen]
  rfl
theorem sby_l {n cap : Nat} {k : IntKind} {l : Nat} (h2 : l ≤ n) : (Instr.sliceBounds true n cap (some (.int k (l : Int))) none none).run P W = .ok (l, n, cap) W := by
  simp [Instr.sliceBounds, run_sliceBound, *, (by omega : 0 ≤ (l : Int))]
end
set_option maxHeartbeats 8000000 in
set_option maxRecDepth 100000 in
theorem clone_rec_nil (w : World) : Calls Try.prog 77 #[.slice none 0 0] w fun e w' => e = .returned (.slice none 0 0) ∧ w' = w := by
  go_enter Try.func77, Try.ntmps77
  go_wp2
  go_ret
  exact ⟨rfl, rfl⟩
set_option maxHeartbeats 8000000 in
set_option maxRecDepth 100000 in
theorem clone_rec (w0 w : World) (L L' : Hl) (gs off n1 c1 : Nat) (cr : Array Value) (xs : List Value) (he : Ext L gs (.cells cr 135 (0, 0)) L') (hv : (cr.toList.drop off).take xs.length = xs) (hl : xs.length = n1 * 4) (h1 : ∀ u ∈ xs, u.oneCell' = true) (hn : n1 ≤ 64) (hO : Own w0 w L) :
    Calls Try.prog 77 #[.slice (some ⟨gs, off, none⟩) n1 c1] w fun e w' => ∃ v', e = .returned v' ∧ ∃ R', RowOf 135 4 R' v' n1 xs ∧ Own w0 w' (R' ++ L) := by
  have hui := Try.underlying3
  have hul := Try.underlying32
  have hu8 := Try.underlying5
  have hur := Try.underlying135
  have hurs := Try.underlying131
  have HO := Aside0.mk hO
  have HE := Aside0.mk he
  have HV := Aside0.mk hv
  have HL := Aside0.mk hl
  have H1 := Aside0.mk h1
  have HN := Aside0.mk hn
  clear hO he hv hl h1 hn
  go_enter Try.func77, Try.ntmps77
  go_wp2_with (first | ((with_reducible refine gate_dst (N := 5) rfl ?_); refine own_lit HO.out rfl (N := 5) rfl (cs := #[]) (t := 135) (n := 0) (m := 0) (by first | (go_simp; done) | (go_simp; rfl) | kernel_rfl) ?_; intro g5 w5 hO_; clear HO; have HO := Aside0.mk hO_; clear hO_) | ((with_reducible refine gate_dst (N := 7) rfl ?_); refine own_append (z := .agg #[.int .i64 0, .int .i64 0, .int .i64 0, .slice none 0 0]) (size := 4) (bytes := 48) (R := [(g5, .cells #[] 135 (0, 0))]) (L := L) [] HO.out rfl rfl hurs (by kernel_rfl) rfl (by rfl) ⟨rfl, .inr ⟨g5, 0, #[], rfl, rfl, Nat.le_refl _, by decide, rfl, rfl⟩⟩ (by rfl) (HO.out.drop.src hurs HE.out off n1 c1 xs HV.out HL.out H1.out) (by have := HN.out; show 0 + n1 ≤ 9223372036854775807; omega) (by have := HN.out; omega) ?_; intro v2 R2 wc hR2 hO_; have HR2 := Aside0.mk hR2; clear hR2; clear HO; have HO := Aside0.mk hO_; clear hO_))
  go_ret
  refine ⟨v2, rfl, R2, ?_, HO.out⟩
  have h := HR2.out
  rw [Nat.zero_add] at h
  exact h
/-- How many records in front are not held any more. -/
def gone : List Rc → Nat
  | [] => 0
  | r :: R => if r.st = 0 then 0 else gone R + 1
theorem gone_le : ∀ R : List Rc, gone R ≤ R.length
  | [] => Nat.le_refl _
  | r :: R => by
    have := gone_le R
    unfold gone
    split
    · omega
    · simp only [List.length_cons]; omega
/-- What is told of records. -/
def tolds : List Rc → List Value → List Value
  | r :: R, v :: V => if r.st = 1 then .int .i64 r.ow :: v :: tolds R V else tolds R V
  | _, _ => []
def ntold : List Rc → Nat
  | [] => 0
  | r :: R => if r.st = 1 then ntold R + 1 else ntold R
theorem ntold_le : ∀ R : List Rc, ntold R ≤ R.length
  | [] => Nat.le_refl _
  | r :: R => by
    have := ntold_le R
    unfold ntold
    split <;> simp only [List.length_cons] <;> omega
theorem tolds_snoc : ∀ (R : List Rc) (V : List Value) (r : Rc) (v : Value), V.length = R.length → tolds (R ++ [r]) (V ++ [v]) = tolds R V ++ (if r.st = 1 then [.int .i64 r.ow, v] else [])
  | [], [], r, v, _ => by simp only [List.nil_append, tolds]
  | q :: R, u :: V, r, v, h => by
    have ih := tolds_snoc R V r v (by simpa using h)
    simp only [List.cons_append, tolds, ih]
    split <;> simp
  | q :: R, [], _, _, h => by cases h
  | [], v :: V, _, _, h => by cases h
theorem ntold_snoc : ∀ (R : List Rc) (r : Rc), ntold (R ++ [r]) = ntold R + (if r.st = 1 then 1 else 0)
  | [], r => by simp only [List.nil_append, ntold]; split <;> rfl
  | q :: R, r => by
    have ih := ntold_snoc R r
    simp only [List.cons_append, ntold, ih]
    split <;> omega
theorem _root_.Go.Proofs.Hp.Own.drained {w0 W : World} {g : Nat × Obj} {R2 RR T1 T2 AR L : Hl} (h : Own w0 W (g :: (R2 ++ (RR ++ ((T1 ++ T2) ++ (AR ++ L)))))) : Own w0 W (g :: ((R2 ++ T2) ++ (AR ++ (T1 ++ L)))) := by
  have h1 : Own w0 W ((g :: R2) ++ ((T1 ++ T2) ++ (AR ++ L))) := by
    have h0 : Own w0 W (RR ++ ((g :: R2) ++ ((T1 ++ T2) ++ (AR ++ L)))) := by have := Own.swap3 (B := g :: R2) (R := RR) (L := (T1 ++ T2) ++ (AR ++ L)) h; simpa using this
    clear h
    induction RR with
    | nil => exact h0
    | cons p RR ih => exact ih h0.drop
  have h2 : Own w0 W ((g :: R2) ++ (T1 ++ ((T2 ++ AR) ++ L))) := by simpa using h1
  have h3 := Own.swap4r h2
  simpa using h3
theorem RSt.cellsV {RR T L : Hl} {V : List Value} {A : Option Addr} {n c : Nat} {R : List Rc} (hR : RowOf 135 4 RR (.slice A n c) n (rcells R V)) (hB : BSt T V R) (hl : R.length = n) {w0 W : World} (HO : Own w0 W ((RR ++ T) ++ L)) {i : Nat} {r : Rc} (hi : R[i]? = some r) :
    ∃ gs Ab cb, A = some ⟨gs, 0, none⟩ ∧ V[i]? = some (.slice Ab r.b.length cb) ∧ W.cell? ⟨gs, i * 4, none⟩ = some (.int .i64 r.id) ∧ W.cell? ⟨gs, i * 4 + 1, none⟩ = some (.int .i64 r.ow) ∧ W.cell? ⟨gs, i * 4 + 2, none⟩ = some (.int .i64 r.st) ∧ W.cell? ⟨gs, i * 4 + 3, none⟩ = some (.slice Ab r.b.length cb) := by
  have hil : i < R.length := by
    rcases Nat.lt_or_ge i R.length with h' | h'
    · exact h'
    · rw [List.getElem?_eq_none h'] at hi; cases hi
  have HO' : Own w0 W (RR ++ (T ++ L)) := by rw [← List.append_assoc]; exact HO
  obtain ⟨T1, B, T2, v, _, hv, hrow, _⟩ := hB.at i r hi
  obtain ⟨Ab, cb, rfl⟩ := RowOf.shape hrow
  obtain ⟨gs, cap, hs, _, _, _, _, hcell⟩ := hR.cells HO' (by omega)
  simp only [Value.slice.injEq] at hs
  obtain ⟨rfl, _, rfl⟩ := hs
  obtain ⟨k0, k1, k2, k3⟩ := rcells_at R V i r _ hi hv
  exact ⟨gs, Ab, cb, rfl, hv, hcell _ _ k0, hcell _ _ k1, hcell _ _ k2, hcell _ _ k3⟩
theorem off_facts {cr : Array Value} {R : List Rc} {V : List Value} {n c i : Nat} (htk : cr.toList.take (n * 4) = rcells R V) (hV : V.length = R.length) (hl : R.length = n) (hi : i ≤ n) (hnc : n ≤ c) (gs : Nat) :
    ∃ off n1 c1 : Nat, Value.slice (if c = i then some ⟨gs, 0, none⟩ else (some (⟨gs, 0, none⟩ : Addr)).map (·.add (i * 4))) (n - i) (c - i) = Value.slice (some ⟨gs, off, none⟩) n1 c1 ∧ n1 + i = n ∧
      (cr.toList.drop off).take (rcells (R.drop i) (V.drop i)).length = rcells (R.drop i) (V.drop i) ∧ (rcells (R.drop i) (V.drop i)).length = n1 * 4 := by
  have hlen : (rcells (R.drop i) (V.drop i)).length = (n - i) * 4 := by rw [rcells_len _ _ (by simp [hV]), List.length_drop, hl]
  by_cases h : c = i
  · refine ⟨0, n - i, c - i, by rw [if_pos h], by omega, ?_, hlen⟩
    have h0 : n - i = 0 := by omega
    rw [h0] at hlen
    have := List.eq_nil_of_length_eq_zero (by simpa using hlen)
    rw [this]
    rfl
  · refine ⟨i * 4, n - i, c - i, by rw [if_neg h]; simp [Addr.add]; omega, by omega, ?_, hlen⟩
    rw [hlen, rcells_drop, ← htk, List.drop_take]
    congr 1
    omega
set_option maxHeartbeats 8000000 in
set_option maxRecDepth 100000 in
theorem drain_calls (w0 w : World) (L X : Hl) (gr : Nat) (room drops nxt : Int) (A : Option Addr) (n c : Nat) (R : List Rc) (hS : RSt X A n c R) (g : Nat) (hg : gone R = g) (hO : Own w0 w ((gr, .cells #[.int .i64 room, .int .i64 drops, .int .i64 nxt, .slice A n c] 133 (0, 0)) :: (X ++ L))) : Calls Try.prog 29 #[.pointer (some ⟨gr, 0, none⟩)] w fun e w' => ∃ v', e = .returned v' ∧ ∃ AR k X' A' n' c' T1 V1, RowOf 51 2 AR v' k (tolds (R.take g) V1) ∧ k = ntold (R.take g) ∧ BSt T1 V1 (R.take g) ∧ RSt X' A' n' c' (R.drop g) ∧ Own w0 w' ((gr, .cells #[.int .i64 room, .int .i64 drops, .int .i64 nxt, .slice A' (n') c'] 133 (0, 0)) :: (X' ++ (AR ++ (T1 ++ L)))) := by
  have hui := Try.underlying3
  have hul := Try.underlying32
  have hu8 := Try.underlying5
  have hur := Try.underlying135
  have hurs := Try.underlying131
  have hua := Try.underlying51
  have huas := Try.underlying47
  obtain ⟨RR, T, V, hX, hR, hB⟩ := hS.ex
  subst hX
  have HR := Aside0.mk hR
  have HB := Aside0.mk hB
  have HO : Aside0 (Own w0 w ((gr, .cells #[.int .i64 room, .int .i64 drops, .int .i64 nxt, .slice A n c] 133 (0, 0)) :: ((RR ++ T) ++ ([] ++ L)))) := ⟨hO⟩
  have HS := Aside0.mk hS
  have HGG := Aside0.mk hg
  clear hO hS hR hB hg
  go_enter Try.func29, Try.ntmps29
  go_wp2
  go_step3
  go_wp2
  go_step3
  go_wp2_with (first | ((with_reducible refine gate_dst (N := 12) rfl ?_); refine own_load HO.out rfl (x := .tmp 11) (v := .slice A n c) rfl (by rfl) (by (repeat (first | exact .head | apply Ext.tail))) hurs (by rfl) (by rfl) ?_))
  go_loopg [3, 4, 14] n (fun gk v3 v4 v14 w' => ∃ (i k : Nat) (AR : Hl) (Ao : Option Addr) (co : Nat), v14 = .int .i64 (i : Int) ∧ v4 = .int .i64 (i : Int) ∧ v3 = .slice Ao k co ∧ Aside0 (i + gk = n) ∧ Aside0 (i + gone (R.drop i) = g) ∧ Aside0 (k = ntold (R.take i) ∧ k ≤ 64) ∧ Aside0 (RowOf 51 2 AR (.slice Ao k co) k (tolds (R.take i) (V.take i))) ∧ Aside0 (Own w0 w' ((gr, .cells #[.int .i64 room, .int .i64 drops, .int .i64 nxt, .slice A n c] 133 (0, 0)) :: ((RR ++ T) ++ (AR ++ L)))))
  case atStart => exact ⟨0, 0, [], none, 0, rfl, rfl, rfl, ⟨Nat.zero_add _⟩, ⟨by rw [Nat.zero_add]; exact HGG.out⟩, ⟨by simp [ntold]⟩, ⟨by simp only [List.take_zero, tolds]; exact RowOf.none _ _⟩, HO⟩
  case round =>
    clear HO
    obtain ⟨i, k, AR, Ao, co, rfl, rfl, rfl, HI, HF, HK, HAR, HO⟩ := hrel
    cases gk with
    | zero =>
      have c1 : decide ((i : Int) < (n : Int)) = false := decide_eq_false (by have := HI.out; omega)
      have c1n : decide (i < n) = false := decide_eq_false (by have := HI.out; omega)
      have HG : Aside0 (i = g) := ⟨by have := HF.out; rw [List.drop_eq_nil_of_le (by have := HI.out; have := HS.out.len; omega)] at this; exact this⟩
      have HIN : Aside0 (i ≤ n) := ⟨by have := HI.out; omega⟩
      rcases HR.out.2 with ⟨hv, h0, hrr⟩ | ⟨gs, cap, cr, hv, hrr, hnc, hcm, hcs, htk⟩
      · simp only [Value.slice.injEq] at hv
        obtain ⟨rfl, _, rfl⟩ := hv
        subst hrr
        obtain rfl : n = 0 := h0
        obtain rfl : i = 0 := by have := HIN.out; omega
        have hR0 : R = [] := List.eq_nil_of_length_eq_zero HS.out.len
        subst hR0
        obtain ⟨rfl, rfl⟩ : T = [] ∧ V = [] := by cases HB.out; exact ⟨rfl, rfl⟩
        go_wp2_with (first | ((with_reducible refine gate_dst (N := 39) rfl ?_); refine own_load HO.out rfl (x := .tmp 38) (v := .slice none 0 0) rfl (by rfl) (by (repeat (first | exact .head | apply Ext.tail))) hurs (by rfl) (by rfl) ?_) | ((with_reducible refine gate_dst (N := 41) rfl ?_); refine Kd.event_run rfl (exec_slicey (size := 4) (l := 0) (h := 0) (m := 0) rfl hurs (by kernel_rfl) (by rfl) (sby_l (Nat.le_refl _)) (v := .slice none 0 0) rfl) ?_) | ((with_reducible refine gate_callee (f := 77) rfl ?_); (with_reducible refine gate_dst (N := 42) rfl ?_); refine goesL_ (some 42) rfl rfl Try.func77 (by kernel_rfl) rfl #[.slice none 0 0] rfl (by (try simp only [List.map_toArray, List.map_cons, List.map_nil]); first | done | rfl) ?_; (with_reducible refine (clone_rec_nil _).mono ?_); rintro e wx ⟨rfl, rfl⟩; refine ⟨_, rfl, ?_⟩; skip) | ((with_reducible refine gate_store (p := 44) rfl ?_); refine own_store HO.out rfl (ty := 131) (x := .tmp 44) (y := .tmp 42) (v := .slice none 0 0) (cs' := #[.int .i64 room, .int .i64 drops, .int .i64 nxt, .slice none 0 0]) rfl (by rfl) (by rfl) (by (repeat (first | exact .head | apply Ext.tail))) (by kernel_rfl) (by rfl) (by first | decide | (simp; done)) (by rfl) ?_; intro wc hO_; clear HO; have HO := Aside0.mk hO_; clear hO_))
        (try rw [Exit.noGoto_ret])
        go_ret
        refine ⟨_, rfl, AR, k, [], none, 0, 0, [], [], ?_, ?_, by rw [List.take_nil]; exact .nil, ?_, HO.out⟩
        · rw [← HG.out]; exact HAR.out
        · rw [← HG.out]; exact HK.out.1
        · rw [← HG.out]; exact RSt.nil
      · simp only [Value.slice.injEq] at hv
        obtain ⟨rfl, _, rfl⟩ := hv
        subst hrr
        obtain ⟨off, n1, c1, hvs, hn1, hov, hol⟩ := off_facts htk HB.out.len HS.out.len HIN.out hnc gs
        have HVS := Aside0.mk hvs
        have HN1 := Aside0.mk hn1
        have HOV := Aside0.mk hov
        have HOL := Aside0.mk hol
        have HC5 : Aside0 (cr = cr) := ⟨rfl⟩
        clear hvs hn1 hov hol hnc hcm hcs htk
        have hO_ : Own w0 _ ((gr, .cells #[.int .i64 room, .int .i64 drops, .int .i64 nxt, .slice (some ⟨gs, 0, none⟩) n c] 133 (0, 0)) :: (gs, .cells cr 135 (0, 0)) :: (T ++ (AR ++ L))) := HO.out
        clear HO; have HO := Aside0.mk hO_; clear hO_
        go_wp2_with (first | ((with_reducible refine gate_dst (N := 39) rfl ?_); refine own_load HO.out rfl (x := .tmp 38) (v := .slice (some ⟨gs, 0, none⟩) n c) rfl (by rfl) (by (repeat (first | exact .head | apply Ext.tail))) hurs (by rfl) (by rfl) ?_) | ((with_reducible refine gate_dst (N := 41) rfl ?_); refine Kd.event_run rfl (exec_slicey (size := 4) (l := i) (h := n) (m := c) rfl hurs (by kernel_rfl) (by rfl) (sby_l HIN.out) HVS.out) ?_) | ((with_reducible refine gate_callee (f := 77) rfl ?_); (with_reducible refine gate_dst (N := 42) rfl ?_); refine goesL_ (some 42) rfl rfl Try.func77 (by kernel_rfl) rfl #[.slice (some ⟨gs, off, none⟩) n1 c1] rfl (by (try simp only [List.map_toArray, List.map_cons, List.map_nil]); first | done | rfl) ?_; (with_reducible refine (clone_rec w0 _ ((gr, .cells #[.int .i64 room, .int .i64 drops, .int .i64 nxt, .slice (some ⟨gs, 0, none⟩) n c] 133 (0, 0)) :: (gs, .cells cr 135 (0, 0)) :: (T ++ (AR ++ L))) _ gs off n1 c1 cr (rcells (R.drop i) (V.drop i)) (.tail .head) HOV.out HOL.out (rcells_one _ _ (fun v hv => HB.out.one v (List.mem_of_mem_drop hv))) (by have := HS.out.le; have := HN1.out; omega) HO.out).mono ?_); rintro e wx ⟨v5, rfl, R5, hR5, hO_⟩; refine ⟨_, rfl, ?_⟩; obtain ⟨A5, c5, rfl⟩ := RowOf.shape hR5; have HR5 := Aside0.mk hR5; clear hR5; have hO_ := Own.swap3 (B := R5) (R := [(gr, .cells #[.int .i64 room, .int .i64 drops, .int .i64 nxt, .slice (some ⟨gs, 0, none⟩) n c] 133 (0, 0))]) (L := (gs, .cells cr 135 (0, 0)) :: (T ++ (AR ++ L))) hO_; have hO_ : Own w0 _ ((gr, .cells #[.int .i64 room, .int .i64 drops, .int .i64 nxt, .slice (some ⟨gs, 0, none⟩) n c] 133 (0, 0)) :: (R5 ++ ((gs, .cells cr 135 (0, 0)) :: (T ++ (AR ++ L))))) := hO_; clear HO; have HO := Aside0.mk hO_; clear hO_) | ((with_reducible refine gate_store (p := 44) rfl ?_); refine own_store HO.out rfl (ty := 131) (x := .tmp 44) (y := .tmp 42) (v := .slice A5 n1 c5) (cs' := #[.int .i64 room, .int .i64 drops, .int .i64 nxt, .slice A5 n1 c5]) rfl (by rfl) (by rfl) (by (repeat (first | exact .head | apply Ext.tail))) (by kernel_rfl) (by rfl) (by first | decide | (simp; done)) (by rfl) ?_; intro wc hO_; clear HO; have HO := Aside0.mk hO_; clear hO_))
        (try rw [Exit.noGoto_ret])
        go_ret
        obtain ⟨T1, T2, hT, hB1, hB2⟩ := HB.out.split i
        subst hT
        refine ⟨_, rfl, AR, k, R5 ++ T2, A5, n1, c5, T1, V.take i, ?_, ?_, ?_, ?_, Own.drained (RR := [(gs, .cells cr 135 (0, 0))]) HO.out⟩
        · rw [← HG.out]; exact HAR.out
        · rw [← HG.out]; exact HK.out.1
        · rw [← HG.out]; exact hB1
        · rw [← HG.out]
          exact ⟨⟨R5, T2, V.drop i, rfl, HR5.out, hB2⟩, by rw [List.length_drop, HS.out.len]; have := HN1.out; omega, by have := HS.out.le; have := HN1.out; omega, fun q hq => HS.out.bs q (List.mem_of_mem_drop hq)⟩
    | succ m =>
      have hin : i < n := by have := HI.out; omega
      have hi : i < R.length := by have := HI.out; have := HS.out.len; omega
      have c1 : decide ((i : Int) < (n : Int)) = true := decide_eq_true (by omega)
      have c1n : decide (i < n) = true := decide_eq_true hin
      have p1 := eq_true (show 0 ≤ (i : Int) by omega)
      have q1 := eq_true (show (i : Int) < (n : Int) by omega)
      have q1n := eq_true hin
      have hri : R[i]? = some R[i] := List.getElem?_eq_getElem hi
      obtain ⟨gs0, Ab, cb, hA, hVi, hx0, hx1, hx2, hx3⟩ := RSt.cellsV HR.out HB.out HS.out.len HO.out.drop hri
      have hd : R.drop i = R[i] :: R.drop (i + 1) := List.drop_eq_getElem_cons hi
      have ht : R.take (i + 1) = R.take i ++ [R[i]] := List.take_succ_eq_append_getElem hi
      have hvt : V.take (i + 1) = V.take i ++ [.slice Ab R[i].b.length cb] := by rw [List.take_add_one, hVi]; rfl
      have hvl : (V.take i).length = (R.take i).length := by rw [List.length_take, List.length_take, HB.out.len]
      have HF2 := HF.out
      rw [hd] at HF2
      unfold gone at HF2
      have HTS := Aside0.mk (tolds_snoc (R.take i) (V.take i) R[i] (.slice Ab R[i].b.length cb) hvl)
      rw [← ht, ← hvt] at HTS
      have HTN := Aside0.mk (ntold_snoc (R.take i) R[i])
      rw [← ht] at HTN
      have HNL : Aside0 (ntold (R.take (i + 1)) ≤ 64) := ⟨by have := ntold_le (R.take (i + 1)); rw [List.length_take] at this; have := HS.out.le; have := HS.out.len; omega⟩
      clear hri hd HF ht hvt hvl hVi
      generalize R[i] = q at hx0 hx1 hx2 hx3 HF2 HTS HTN
      obtain ⟨k1, k2, k3, k4⟩ := q
      dsimp only at hx0 hx1 hx2 hx3 HF2 HTS HTN
      by_cases h0 : k3 = 0
      · subst h0
        have HG : Aside0 (i = g) := ⟨by rw [if_pos rfl] at HF2; exact HF2⟩
        have HIN : Aside0 (i ≤ n) := ⟨by omega⟩
        have HIX : Aside0 (i < n) := ⟨hin⟩
        clear HF2 HTS HTN hin hi
        subst hA
        go_upto_region 14 with (first | ((with_reducible refine gate_dst (N := 6) rfl ?_); refine own_box HO.out ?hg (N := 6) ?hd (cs := #[.int .i64 0, .int .i64 0, .int .i64 0, .slice none 0 0]) (t := 135) ?hr ?_; (case hd => rfl); (case hg => rfl); (case hr => first | (go_simp; done) | (go_simp; rfl) | kernel_rfl); intro g6 w6 hO_; clear HO; have HO := Aside0.mk hO_; clear hO_) | ((with_reducible refine gate_store (p := 6) rfl ?_); refine own_wstore HO.out rfl (ty := 135) (x := .tmp 6) (y := .tmp 17) (cs := #[.int .i64 k1, .int .i64 k2, .int .i64 0, .slice Ab k4.length cb]) rfl (by rfl) (by rfl) (by (repeat (first | exact .head | apply Ext.tail))) (by kernel_rfl) (by rfl) (by kernel_rfl) ?_; intro wc hO_; clear HO; have HO := Aside0.mk hO_; clear hO_) | ((with_reducible refine gate_dst (N := 19) rfl ?_); refine own_load HO.out rfl (x := .tmp 18) (v := .int .i64 0) rfl (by rfl) (by (repeat (first | exact .head | apply Ext.tail))) hui (by rfl) (by rfl) ?_))
        clear hx0 hx1 hx2 hx3 p1 q1 q1n c1 c1n
        have hO_ := HO.out.drop
        clear HO; have HO := Aside0.mk hO_; clear hO_
        have HRX := HR
        rcases HR.out.2 with ⟨hv, h0, hrr⟩ | ⟨gs, cap, cr, hv, hrr, hnc, hcm, hcs, htk⟩
        · exact absurd h0 (by have := HIX.out; omega)
        · simp only [Value.slice.injEq, Option.some.injEq, Addr.mk.injEq, and_true] at hv
          obtain ⟨he, _, rfl⟩ := hv
          obtain rfl : gs = gs0 := he.symm
          subst hrr
          obtain ⟨off, n1, c1, hvs, hn1, hov, hol⟩ := off_facts htk HB.out.len HS.out.len HIN.out hnc gs
          have HVS := Aside0.mk hvs
          have HN1 := Aside0.mk hn1
          have HOV := Aside0.mk hov
          have HOL := Aside0.mk hol
          have HC5 : Aside0 (cr = cr) := ⟨rfl⟩
          clear hvs hn1 hov hol hnc hcm hcs htk
          have hO_ : Own w0 _ ((gr, .cells #[.int .i64 room, .int .i64 drops, .int .i64 nxt, .slice (some ⟨gs, 0, none⟩) n c] 133 (0, 0)) :: (gs, .cells cr 135 (0, 0)) :: (T ++ (AR ++ L))) := HO.out
          clear HO; have HO := Aside0.mk hO_; clear hO_
          go_wp2_with (first | ((with_reducible refine gate_dst (N := 39) rfl ?_); refine own_load HO.out rfl (x := .tmp 38) (v := .slice (some ⟨gs, 0, none⟩) n c) rfl (by rfl) (by (repeat (first | exact .head | apply Ext.tail))) hurs (by rfl) (by rfl) ?_) | ((with_reducible refine gate_dst (N := 41) rfl ?_); refine Kd.event_run rfl (exec_slicey (size := 4) (l := i) (h := n) (m := c) rfl hurs (by kernel_rfl) (by rfl) (sby_l HIN.out) HVS.out) ?_) | ((with_reducible refine gate_callee (f := 77) rfl ?_); (with_reducible refine gate_dst (N := 42) rfl ?_); refine goesL_ (some 42) rfl rfl Try.func77 (by kernel_rfl) rfl #[.slice (some ⟨gs, off, none⟩) n1 c1] rfl (by (try simp only [List.map_toArray, List.map_cons, List.map_nil]); first | done | rfl) ?_; (with_reducible refine (clone_rec w0 _ ((gr, .cells #[.int .i64 room, .int .i64 drops, .int .i64 nxt, .slice (some ⟨gs, 0, none⟩) n c] 133 (0, 0)) :: (gs, .cells cr 135 (0, 0)) :: (T ++ (AR ++ L))) _ gs off n1 c1 cr (rcells (R.drop i) (V.drop i)) (.tail .head) HOV.out HOL.out (rcells_one _ _ (fun v hv => HB.out.one v (List.mem_of_mem_drop hv))) (by have := HS.out.le; have := HN1.out; omega) HO.out).mono ?_); rintro e wx ⟨v5, rfl, R5, hR5, hO_⟩; refine ⟨_, rfl, ?_⟩; obtain ⟨A5, c5, rfl⟩ := RowOf.shape hR5; have HR5 := Aside0.mk hR5; clear hR5; have hO_ := Own.swap3 (B := R5) (R := [(gr, .cells #[.int .i64 room, .int .i64 drops, .int .i64 nxt, .slice (some ⟨gs, 0, none⟩) n c] 133 (0, 0))]) (L := (gs, .cells cr 135 (0, 0)) :: (T ++ (AR ++ L))) hO_; have hO_ : Own w0 _ ((gr, .cells #[.int .i64 room, .int .i64 drops, .int .i64 nxt, .slice (some ⟨gs, 0, none⟩) n c] 133 (0, 0)) :: (R5 ++ ((gs, .cells cr 135 (0, 0)) :: (T ++ (AR ++ L))))) := hO_; clear HO; have HO := Aside0.mk hO_; clear hO_) | ((with_reducible refine gate_store (p := 44) rfl ?_); refine own_store HO.out rfl (ty := 131) (x := .tmp 44) (y := .tmp 42) (v := .slice A5 n1 c5) (cs' := #[.int .i64 room, .int .i64 drops, .int .i64 nxt, .slice A5 n1 c5]) rfl (by rfl) (by rfl) (by (repeat (first | exact .head | apply Ext.tail))) (by kernel_rfl) (by rfl) (by first | decide | (simp; done)) (by rfl) ?_; intro wc hO_; clear HO; have HO := Aside0.mk hO_; clear hO_))
          (try rw [Exit.noGoto_ret])
          go_ret
          obtain ⟨T1, T2, hT, hB1, hB2⟩ := HB.out.split i
          subst hT
          refine ⟨_, rfl, AR, k, R5 ++ T2, A5, n1, c5, T1, V.take i, ?_, ?_, ?_, ?_, Own.drained (RR := [(gs, .cells cr 135 (0, 0))]) HO.out⟩
          · rw [← HG.out]; exact HAR.out
          · rw [← HG.out]; exact HK.out.1
          · rw [← HG.out]; exact hB1
          · rw [← HG.out]
            exact ⟨⟨R5, T2, V.drop i, rfl, HR5.out, hB2⟩, by rw [List.length_drop, HS.out.len]; have := HN1.out; omega, by have := HS.out.le; have := HN1.out; omega, fun q hq => HS.out.bs q (List.mem_of_mem_drop hq)⟩
      · have HF3 : Aside0 (i + 1 + gone (R.drop (i + 1)) = g) := ⟨by rw [if_neg h0] at HF2; omega⟩
        have hiw := w_of (x := (i : Int) + 1) (y := ((i + 1 : Nat) : Int)) (by omega) (by have := HS.out.le; omega)
        have e0 : (k3 == 0) = false := beq_eq_false_iff_ne.mpr h0
        have e0p := eq_false h0
        subst hA
        by_cases h1 : k3 = 1
        · subst h1
          clear HF2 hin hi h0 e0 e0p
          have u1 := hiw.out.1; have u1b := hiw.out.2
          go_wp2_with (first | ((with_reducible refine gate_dst (N := 6) rfl ?_); refine own_box HO.out ?hg (N := 6) ?hd (cs := #[.int .i64 0, .int .i64 0, .int .i64 0, .slice none 0 0]) (t := 135) ?hr ?_; (case hd => rfl); (case hg => rfl); (case hr => first | (go_simp; done) | (go_simp; rfl) | kernel_rfl); intro g6 w6 hO_; clear HO; have HO := Aside0.mk hO_; clear hO_) | ((with_reducible refine gate_store (p := 6) rfl ?_); refine own_wstore HO.out rfl (ty := 135) (x := .tmp 6) (y := .tmp 17) (cs := #[.int .i64 k1, .int .i64 k2, .int .i64 1, .slice Ab k4.length cb]) rfl (by rfl) (by rfl) (by (repeat (first | exact .head | apply Ext.tail))) (by kernel_rfl) (by rfl) (by kernel_rfl) ?_; intro wc hO_; clear HO; have HO := Aside0.mk hO_; clear hO_) | ((with_reducible refine gate_dst (N := 19) rfl ?_); refine own_load HO.out rfl (x := .tmp 18) (v := .int .i64 1) rfl (by rfl) (by (repeat (first | exact .head | apply Ext.tail))) hui (by rfl) (by rfl) ?_) | ((with_reducible refine gate_dst (N := 26) rfl ?_); refine own_load HO.out rfl (x := .tmp 25) (v := .int .i64 k2) rfl (by rfl) (by (repeat (first | exact .head | apply Ext.tail))) hui (by rfl) (by rfl) ?_) | ((with_reducible refine gate_dst (N := 28) rfl ?_); refine own_load HO.out rfl (x := .tmp 27) (v := .slice Ab k4.length cb) rfl (by rfl) (by (repeat (first | exact .head | apply Ext.tail))) hul (by rfl) (by rfl) ?_) | ((with_reducible refine gate_dst (N := 30) rfl ?_); refine own_lit HO.out rfl (N := 30) rfl (cs := #[.int .i64 k2, .slice Ab k4.length cb]) (t := 51) (n := 1) (m := 1) (by first | (go_simp; done) | (go_simp; rfl) | kernel_rfl) ?_; intro g30 w30 hO_; clear HO; have HO := Aside0.mk hO_; clear hO_) | ((with_reducible refine gate_dst (N := 31) rfl ?_); refine own_append (z := .agg #[.int .i64 0, .slice none 0 0]) (size := 2) (bytes := 32) (R := AR) (L := L) ((g30, .cells #[.int .i64 k2, .slice Ab k4.length cb] 51 (0, 0)) :: (g6, .cells #[.int .i64 k1, .int .i64 k2, .int .i64 1, .slice Ab k4.length cb] 135 (0, 0)) :: (gr, .cells #[.int .i64 room, .int .i64 drops, .int .i64 nxt, .slice (some ⟨gs0, 0, none⟩) n c] 133 (0, 0)) :: (RR ++ T)) (Aside0.mk HO.out).out rfl rfl huas (by kernel_rfl) rfl (by rfl) HAR.out (by rfl) (HO.out.src huas .head 0 1 1 [.int .i64 k2, .slice Ab k4.length cb] rfl rfl (by simp [Value.oneCell'])) (by have := HK.out; show k + 1 ≤ 9223372036854775807; omega) (by have := HK.out; omega) ?_; intro v2 R2 wc hR2 hO_; obtain ⟨A2, c2, rfl⟩ := RowOf.shape hR2; have HR2 := Aside0.mk hR2; clear hR2; clear HO; have HO := Aside0.mk hO_; clear hO_))
          go_roundg m
          case measure => clear u1 u1b; omega
          case rel =>
            clear u1 u1b
            refine ⟨i + 1, k + 1, R2, A2, c2, rfl, rfl, rfl, ⟨by have := HI.out; omega⟩, HF3, ⟨?_, ?_⟩, ⟨?_⟩, ⟨?_⟩⟩
            · have := HTN.out; rw [if_pos trivial] at this; rw [this, HK.out.1]
            · have := HTN.out; rw [if_pos trivial] at this; have := HNL.out; have := HK.out.1; omega
            · have := HTS.out; rw [if_pos trivial] at this; rw [this]; exact HR2.out
            · exact HO.out.drop.drop
        · have e1 : (k3 == 1) = false := beq_eq_false_iff_ne.mpr h1
          have e1p := eq_false h1
          have HTS2 := Aside0.mk h1
          clear HF2 hin hi h0 h1
          have u1 := hiw.out.1; have u1b := hiw.out.2
          go_wp2_with (first | ((with_reducible refine gate_dst (N := 6) rfl ?_); refine own_box HO.out ?hg (N := 6) ?hd (cs := #[.int .i64 0, .int .i64 0, .int .i64 0, .slice none 0 0]) (t := 135) ?hr ?_; (case hd => rfl); (case hg => rfl); (case hr => first | (go_simp; done) | (go_simp; rfl) | kernel_rfl); intro g6 w6 hO_; clear HO; have HO := Aside0.mk hO_; clear hO_) | ((with_reducible refine gate_store (p := 6) rfl ?_); refine own_wstore HO.out rfl (ty := 135) (x := .tmp 6) (y := .tmp 17) (cs := #[.int .i64 k1, .int .i64 k2, .int .i64 k3, .slice Ab k4.length cb]) rfl (by rfl) (by rfl) (by (repeat (first | exact .head | apply Ext.tail))) (by kernel_rfl) (by rfl) (by kernel_rfl) ?_; intro wc hO_; clear HO; have HO := Aside0.mk hO_; clear hO_) | ((with_reducible refine gate_dst (N := 19) rfl ?_); refine own_load HO.out rfl (x := .tmp 18) (v := .int .i64 k3) rfl (by rfl) (by (repeat (first | exact .head | apply Ext.tail))) hui (by rfl) (by rfl) ?_))
          go_roundg m
          case measure => clear u1 u1b; omega
          case rel =>
            clear u1 u1b
            refine ⟨i + 1, k, AR, Ao, co, rfl, rfl, rfl, ⟨by have := HI.out; omega⟩, HF3, ⟨?_, HK.out.2⟩, ⟨?_⟩, ⟨HO.out.drop⟩⟩
            · have := HTN.out; rw [if_neg HTS2.out, Nat.add_zero] at this; rw [this]; exact HK.out.1
            · have := HTS.out; rw [if_neg HTS2.out, List.append_nil] at this; rw [this]; exact HAR.out
theorem reserve_ok2 (w0 w : World) (L X : Hl) (gr : Nat) (room drops nxt : Int) (A : Option Addr) (n c : Nat) (R : List Rc) (hS : RSt X A n c R) (ow : Int) (m : Nat) (hm : 1 ≤ m ∧ m ≤ 32) (mi : Int) (hmi : mi = (m : Int)) (x1 : Int) (hx1 : x1 = nxt + 1) (hn : 0 ≤ nxt ∧ nxt ≤ 100000) (hu : used R + m + 8 ≤ room) (hrm : room ≤ 256) (hO : Own w0 w ((gr, .cells #[.int .i64 room, .int .i64 drops, .int .i64 nxt, .slice A n c] 133 (0, 0)) :: (X ++ L))) : Calls Try.prog 26 #[.pointer (some ⟨gr, 0, none⟩), .int .i64 ow, .int .i64 mi] w fun e w' => e = .returned (.tuple #[.int .i64 nxt, .bool true]) ∧ ∃ X2 A2 n2 c2 R2, n2 = n + 1 ∧ R2 = R ++ [⟨nxt, ow, 0, List.replicate m 0⟩] ∧ RSt X2 A2 n2 c2 R2 ∧ Own w0 w' ((gr, .cells #[.int .i64 room, .int .i64 drops, .int .i64 x1, .slice A2 n2 c2] 133 (0, 0)) :: (X2 ++ L)) := by
  subst hmi
  refine (reserve_ok w0 w L X gr room drops nxt A n c R hS ow m hm x1 hx1 hn (by omega) hrm hO).mono fun e w' h => ?_
  obtain ⟨h1, X2, A2, c2, h2, h3⟩ := h
  exact ⟨h1, X2, A2, _, c2, _, rfl, rfl, h2, h3⟩
theorem reserve_full2 (w0 w : World) (L X : Hl) (gr : Nat) (room drops nxt : Int) (A : Option Addr) (n c : Nat) (R : List Rc) (hS : RSt X A n c R) (ow : Int) (m : Nat) (hm : 1 ≤ m ∧ m ≤ 32) (mi : Int) (hmi : mi = (m : Int)) (d1 : Int) (hd1 : d1 = drops + 1) (hd : 0 ≤ drops ∧ drops ≤ 100000) (hu : ¬ ((used R : Int) + (m : Int) + 8 ≤ room)) (hO : Own w0 w ((gr, .cells #[.int .i64 room, .int .i64 drops, .int .i64 nxt, .slice A n c] 133 (0, 0)) :: (X ++ L))) : Calls Try.prog 26 #[.pointer (some ⟨gr, 0, none⟩), .int .i64 ow, .int .i64 mi] w fun e w' => e = .returned (.tuple #[.int .i64 0, .bool false]) ∧ Own w0 w' ((gr, .cells #[.int .i64 room, .int .i64 d1, .int .i64 nxt, .slice A n c] 133 (0, 0)) :: (X ++ L)) := by
  subst hmi
  exact reserve_full w0 w L X gr room drops nxt A n c R hS ow m hm d1 hd1 hd hu hO
theorem commit_has2 (w0 w : World) (L X : Hl) (gr : Nat) (room drops nxt : Int) (A : Option Addr) (n c : Nat) (R : List Rc) (i : Nat) (r : Rc) (gs gb cb : Nat) (cr cur : Array Value) (hP : ROpen X A n c R i r gs gb cb cr cur) (x : Int) (hf : rfind x R 0 = (i : Int)) (hO : Own w0 w ((gr, .cells #[.int .i64 room, .int .i64 drops, .int .i64 nxt, .slice A n c] 133 (0, 0)) :: (X ++ L))) : Calls Try.prog 31 #[.pointer (some ⟨gr, 0, none⟩), .int .i64 x] w fun e w' => e = .returned (.bool true) ∧ ∃ X' R', R' = R.set i { r with st := 1 } ∧ RSt X' A n c R' ∧ Own w0 w' ((gr, .cells #[.int .i64 room, .int .i64 drops, .int .i64 nxt, .slice A n c] 133 (0, 0)) :: (X' ++ ((gb, .cells cur 5 (0, 0)) :: L))) :=
  (commit_has w0 w L X gr room drops nxt A n c R i r gs gb cb cr cur hP x hf hO).mono fun e w' h => ⟨h.1, h.2.choose, _, rfl, h.2.choose_spec.1, h.2.choose_spec.2⟩
theorem discard_has2 (w0 w : World) (L X : Hl) (gr : Nat) (room drops nxt : Int) (A : Option Addr) (n c : Nat) (R : List Rc) (i : Nat) (r : Rc) (gs gb cb : Nat) (cr cur : Array Value) (hP : ROpen X A n c R i r gs gb cb cr cur) (x : Int) (hf : rfind x R 0 = (i : Int)) (hO : Own w0 w ((gr, .cells #[.int .i64 room, .int .i64 drops, .int .i64 nxt, .slice A n c] 133 (0, 0)) :: (X ++ L))) : Calls Try.prog 28 #[.pointer (some ⟨gr, 0, none⟩), .int .i64 x] w fun e w' => e = .returned (.bool true) ∧ ∃ X' R' L', R' = R.set i { r with st := 2 } ∧ RSt X' A n c R' ∧ Own w0 w' ((gr, .cells #[.int .i64 room, .int .i64 drops, .int .i64 nxt, .slice A n c] 133 (0, 0)) :: (X' ++ L')) :=
  (discard_has w0 w L X gr room drops nxt A n c R i r gs gb cb cr cur hP x hf hO).mono fun e w' h => ⟨h.1, h.2.choose, _, _, rfl, h.2.choose_spec.1, h.2.choose_spec.2⟩
theorem drain_calls2 (w0 w : World) (L X : Hl) (gr : Nat) (room drops nxt : Int) (A : Option Addr) (n c : Nat) (R : List Rc) (hS : RSt X A n c R) (g : Nat) (hg : gone R = g) (hO : Own w0 w ((gr, .cells #[.int .i64 room, .int .i64 drops, .int .i64 nxt, .slice A n c] 133 (0, 0)) :: (X ++ L))) : Calls Try.prog 29 #[.pointer (some ⟨gr, 0, none⟩)] w fun e w' => ∃ Av k cv, e = .returned (.slice Av k cv) ∧ ∃ AR X' A' n' c' R' T1 V1, RowOf 51 2 AR (.slice Av k cv) k (tolds (R.take g) V1) ∧ k = ntold (R.take g) ∧ BSt T1 V1 (R.take g) ∧ R' = R.drop g ∧ RSt X' A' n' c' R' ∧ Own w0 w' ((gr, .cells #[.int .i64 room, .int .i64 drops, .int .i64 nxt, .slice A' (n') c'] 133 (0, 0)) :: (X' ++ (AR ++ (T1 ++ L)))) :=
  (drain_calls w0 w L X gr room drops nxt A n c R hS g hg hO).mono fun e w' h => by
    obtain ⟨v', rfl, AR, k, X', A', n', c', T1, V1, h1, h2⟩ := h
    obtain ⟨Av, cv, rfl⟩ := RowOf.shape h1
    exact ⟨Av, k, cv, rfl, AR, X', A', n', c', _, T1, V1, h1, h2.1, h2.2.1, rfl, h2.2.2⟩
set_option maxHeartbeats 8000000 in
set_option maxRecDepth 100000 in
theorem ring_alive (w : World) : Calls Try.prog 24 #[] w fun e w' => e = .returned (.bool true) ∧ Below w.heap.size w w' := by
  have hui := Try.underlying3
  have hul := Try.underlying32
  have hu8 := Try.underlying5
  have hur := Try.underlying135
  have hurs := Try.underlying131
  have HO := Aside0.mk (Own.refl w)
  go_enter Try.func24, Try.ntmps24
  go_wp2_with (first | ((with_reducible refine gate_callee (f := 25) rfl ?_); (with_reducible refine gate_dst (N := 12) rfl ?_); refine goesL_ (some 12) rfl rfl Try.func25 (by kernel_rfl) rfl #[.int .i64 20] rfl (by (try simp only [List.map_toArray, List.map_cons, List.map_nil]); first | done | rfl) ?_; (with_reducible refine (rnew_ok w _ [] 20 (by decide) HO.out).mono ?_); rintro e wx ⟨gr, rfl, hO_⟩; refine ⟨_, rfl, ?_⟩; clear HO; have HO := Aside0.mk hO_; clear hO_) | ((with_reducible refine gate_callee (f := 26) rfl ?_); (with_reducible refine gate_dst (N := 23) rfl ?_); refine goesL_ (some 23) rfl rfl Try.func26 (by kernel_rfl) rfl #[.pointer (some ⟨gr, 0, none⟩), .int .i64 1, .int .i64 4] rfl (by (try simp only [List.map_toArray, List.map_cons, List.map_nil]); first | done | rfl) ?_; (with_reducible refine (reserve_ok2 w _ [] [] gr 20 0 0 none 0 0 [] RSt.nil 1 4 (by decide) 4 rfl 1 rfl (by decide) (by decide) (by decide) HO.out).mono ?_); rintro e wx ⟨rfl, X2, A2, n2, c2, R2, hn2, hR2, hS2, hO_⟩; refine ⟨_, rfl, ?_⟩; have HR2 := Aside0.mk hR2; have HS2 := Aside0.mk hS2; clear hn2 hR2 hS2; clear HO; have HO := Aside0.mk hO_; clear hO_) | ((with_reducible refine gate_callee (f := 26) rfl ?_); (with_reducible refine gate_dst (N := 28) rfl ?_); refine goesL_ (some 28) rfl rfl Try.func26 (by kernel_rfl) rfl #[.pointer (some ⟨gr, 0, none⟩), .int .i64 1, .int .i64 4] rfl (by (try simp only [List.map_toArray, List.map_cons, List.map_nil]); first | done | rfl) ?_; (with_reducible refine (reserve_full2 w _ [] X2 gr 20 0 1 A2 n2 c2 R2 HS2.out 1 4 (by decide) 4 rfl 1 rfl (by decide) (by rw [HR2.out]; decide) HO.out).mono ?_); rintro e wx ⟨rfl, hO_⟩; refine ⟨_, rfl, ?_⟩; (obtain ⟨gs, gb, cb, cr, cur, hP⟩ := HS2.out.open (i := 0) (r := ⟨0, 1, 0, List.replicate 4 0⟩) (by rw [HR2.out]; rfl) (by decide)); have HP := Aside0.mk hP; clear hP; clear HO; have HO := Aside0.mk hO_; clear hO_) | ((with_reducible refine gate_callee (f := 31) rfl ?_); (with_reducible refine gate_dst (N := 32) rfl ?_); refine goesL_ (some 32) rfl rfl Try.func31 (by kernel_rfl) rfl #[.pointer (some ⟨gr, 0, none⟩), .int .i64 0] rfl (by (try simp only [List.map_toArray, List.map_cons, List.map_nil]); first | done | rfl) ?_; (with_reducible refine (commit_has2 w _ [] X2 gr 20 1 1 A2 n2 c2 R2 0 ⟨0, 1, 0, List.replicate 4 0⟩ gs gb cb cr cur HP.out 0 (by rw [HR2.out]; decide) HO.out).mono ?_); rintro e wx ⟨rfl, X3, R3, hR3, hS3, hO_⟩; refine ⟨_, rfl, ?_⟩; have HR3 := Aside0.mk hR3; have HS3 := Aside0.mk hS3; clear hR3 hS3; clear HO; have HO := Aside0.mk hO_; clear hO_) | ((with_reducible refine gate_callee (f := 29) rfl ?_); (with_reducible refine gate_dst (N := 34) rfl ?_); refine goesL_ (some 34) rfl rfl Try.func29 (by kernel_rfl) rfl #[.pointer (some ⟨gr, 0, none⟩)] rfl (by (try simp only [List.map_toArray, List.map_cons, List.map_nil]); first | done | rfl) ?_; (with_reducible refine (drain_calls2 w _ _ X3 gr 20 1 1 A2 n2 c2 R3 HS3.out 1 (by rw [HR3.out, HR2.out]; decide) HO.out).mono ?_); rintro e wx ⟨Av, k4, cv, rfl, AR, X4, A4, n4, c4, R4, T1, V1, hA4, hk4, hB4, hR4, hS4, hO_⟩; refine ⟨_, rfl, ?_⟩; (obtain rfl : (1 : Nat) = k4 := by (rw [hk4, HR3.out, HR2.out]; decide)); have HR4 := Aside0.mk hR4; have HS4 := Aside0.mk hS4; clear hA4 hk4 hB4 hR4 hS4; clear HO; have HO := Aside0.mk hO_; clear hO_) | ((with_reducible refine gate_callee (f := 26) rfl ?_); (with_reducible refine gate_dst (N := 37) rfl ?_); refine goesL_ (some 37) rfl rfl Try.func26 (by kernel_rfl) rfl #[.pointer (some ⟨gr, 0, none⟩), .int .i64 1, .int .i64 4] rfl (by (try simp only [List.map_toArray, List.map_cons, List.map_nil]); first | done | rfl) ?_; (with_reducible refine (reserve_ok2 w _ _ X4 gr 20 1 1 A4 n4 c4 R4 HS4.out 1 4 (by decide) 4 rfl 2 rfl (by decide) (by rw [HR4.out, HR3.out, HR2.out]; decide) (by decide) HO.out).mono ?_); rintro e wx ⟨rfl, X5, A5, n5, c5, R5, hn5, hR5, hS5, hO_⟩; refine ⟨_, rfl, ?_⟩; have HS5 := Aside0.mk hS5; clear hn5 hR5 hS5; clear HO; have HO := Aside0.mk hO_; clear hO_) | (go_at_call 27; refine (drops_calls w _ _ X5 gr 20 1 2 A5 n5 c5 R5 HS5.out HO.out).mono ?_; rintro e wk ⟨rfl, hO_⟩; clear HO; have HO := Aside0.mk hO_; clear hO_; dsimp only))
  go_ret
  exact ⟨rfl, HO.out.bel⟩
end Go.Proofs.Rg
