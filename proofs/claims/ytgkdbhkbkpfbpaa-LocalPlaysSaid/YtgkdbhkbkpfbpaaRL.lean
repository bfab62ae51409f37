/- Contracts of the document's storage, over lists of blocks; no conditions beyond each theorem's own. -/
import Derived.Test.YtgkdbhkbkpfbpaaLE
set_option linter.unusedVariables false
set_option linter.unusedSimpArgs false
namespace Go.Proofs.Lc
open Go.RowKit Go.Proofs.Ev Go.Proofs.Hp Go.Proofs.Ar Go.Proofs.YtgkdbhkbkpfbpaaW.PrintWords Go.Proofs.YtgkdbhkbkpfbpaaW.PrintLast Go.Proofs.YtgkdbhkbkpfbpaaW.PrintMore
attribute [local go_sem] max2_int min2_int max_two min_two max_three min_three max_four min_four eql_slice_nil
/-- The document's storage: keys, slots. -/
structure RSt12 (Z N : Nat) (RK : Hl) (A : Option Addr) (n c : Nat) (X : Hl) (AS : Option Addr) (cS : Nat) (K : List (Int × Int)) (D : List (List Int)) : Prop where
  row : RowOf 54 2 RK (.slice A n c) n (kcells K)
  kl : K.length = n
  nle : n ≤ N
  hN : N ≤ 16
  hZ : Z ≤ 32
  refA : RefA X AS cS Z D
  dl : D.length = N
theorem RowOf.block {e : TypeId} {size : Nat} {RR : Hl} {A : Option Addr} {n c : Nat} {xs : List Value} (h : RowOf e size RR (.slice A n c) n xs) (hn : 0 < n) :
    ∃ gs cur, A = some ⟨gs, 0, none⟩ ∧ RR = [(gs, .cells cur e (0, 0))] ∧ n * size ≤ cur.size ∧ cur.size = c * size ∧ n ≤ c ∧ cur.toList.take (n * size) = xs ∧ c ≤ maxLen := by
  obtain ⟨hl, ⟨hv, h0, _⟩ | ⟨g, cap, cur, hv, rfl, hnc, hcm, hcs, htk⟩⟩ := h
  · omega
  · simp only [Value.slice.injEq] at hv
    obtain ⟨rfl, _, rfl⟩ := hv
    exact ⟨g, cur, rfl, rfl, by rw [hcs]; exact Nat.mul_le_mul_right _ hnc, hcs, hnc, htk, hcm⟩
theorem take_at {cur : Array Value} {m j : Nat} {xs : List Value} {v : Value} (h : cur.toList.take m = xs) (hj : xs[j]? = some v) : cur[j]? = some v := by
  rw [← h, List.getElem?_take] at hj
  split at hj
  · rw [← Array.getElem?_toList]; exact hj
  · cases hj
theorem w12 {x y : Int} (h : x = y) (hb : -1000 ≤ y ∧ y ≤ 1000) : Aside0 (IntKind.i64.wrap x = y ∧ wrap64 x = y) := by
  subst h
  have h1 : IntKind.i64.wrap x = x := IntWalk.i64_in _ (by omega)
  exact ⟨h1, (i64_w _).symm.trans h1⟩
set_option maxHeartbeats 8000000 in
set_option maxRecDepth 100000 in
theorem rnew12 (w0 w : World) (L : Hl) (z nn : Int) (Z N : Nat) (hz : z = (Z : Int)) (hZ : Z ≤ 32) (hnn : nn = (N : Int)) (hN : N ≤ 16) (hO : Own w0 w L) : Calls Try.prog 54 #[.int .i64 z, .int .i64 nn] w fun e w' => ∃ gw, e = .returned (.pointer (some ⟨gw, 0, none⟩)) ∧ ∃ gr RK X A AS n c cS K D, K = [] ∧ n = 0 ∧ D = List.replicate N (List.replicate Z 0) ∧ RSt12 Z N RK A n c X AS cS K D ∧ Own w0 w' ((gw, .cells #[.slice A n c, .pointer (some ⟨gr, 0, none⟩)] 91 (0, 0)) :: (gr, .cells #[.int .i64 (Z : Int), .slice AS N cS] 129 (0, 0)) :: (RK ++ (X ++ L))) := by
  have hui := Try.underlying3
  have hul := Try.underlying32
  have huk := Try.underlying54
  have huks := Try.underlying89
  have hull := Try.underlying127
  have hup := Try.underlying29
  have HO := Aside0.mk hO
  have HZ := Aside0.mk hz
  have HZ2 := Aside0.mk hZ
  have HN := Aside0.mk hnn
  have HN2 := Aside0.mk hN
  clear hO hz hZ hnn hN
  go_enter Try.func54, Try.ntmps54
  go_wp2_with (first | ((with_reducible refine gate_callee (f := 16) rfl ?_); (with_reducible refine gate_dst (N := 7) rfl ?_); refine goesL_ (some 7) rfl rfl Try.func16 (by kernel_rfl) rfl #[.int .i64 z, .int .i64 nn] rfl (by (try simp only [List.map_toArray, List.map_cons, List.map_nil]); first | done | rfl) ?_; (with_reducible refine (rnew_calls w0 _ L z nn Z N HZ.out HZ2.out HN.out HN2.out HO.out).mono ?_); rintro e wx ⟨gr, rfl, AS, cS, X, hX, hO_⟩; refine ⟨_, rfl, ?_⟩; have HX := Aside0.mk hX; clear hX; clear HO; have HO := Aside0.mk hO_; clear hO_) | ((with_reducible refine gate_dst (N := 9) rfl ?_); refine own_box HO.out ?hg (N := 9) ?hd (cs := #[.slice none 0 0, .pointer (some ⟨gr, 0, none⟩)]) (t := 91) ?hr ?_; (case hd => rfl); (case hg => rfl); (case hr => first | (go_simp; done) | (go_simp; rfl) | kernel_rfl); intro g9 w9 hO_; clear HO; have HO := Aside0.mk hO_; clear hO_))
  go_ret
  refine ⟨_, rfl, gr, [], X, none, AS, 0, 0, cS, [], _, rfl, rfl, rfl, ⟨RowOf.none _ _, rfl, Nat.zero_le _, HN2.out, HZ2.out, HX.out, by simp⟩, ?_⟩
  have := HO.out
  rw [HZ.out] at this
  exact this
set_option maxHeartbeats 8000000 in
set_option maxRecDepth 100000 in
theorem rfind12 (w0 w : World) (L RK X : Hl) (gw gr Z N : Nat) (A AS : Option Addr) (n c cS : Nat) (K : List (Int × Int)) (D : List (List Int)) (hS : RSt12 Z N RK A n c X AS cS K D) (x y r : Int) (hr : kfind (x, y) K 0 = r) (hO : Own w0 w ((gw, .cells #[.slice A n c, .pointer (some ⟨gr, 0, none⟩)] 91 (0, 0)) :: (gr, .cells #[.int .i64 (Z : Int), .slice AS N cS] 129 (0, 0)) :: (RK ++ (X ++ L)))) : Calls Try.prog 89 #[.pointer (some ⟨gw, 0, none⟩), .agg #[.int .i64 x, .int .i64 y]] w fun e w' => e = .returned (.int .i64 r) ∧ Own w0 w' ((gw, .cells #[.slice A n c, .pointer (some ⟨gr, 0, none⟩)] 91 (0, 0)) :: (gr, .cells #[.int .i64 (Z : Int), .slice AS N cS] 129 (0, 0)) :: (RK ++ (X ++ L))) := by
  have hui := Try.underlying3
  have hul := Try.underlying32
  have huk := Try.underlying54
  have huks := Try.underlying89
  have hull := Try.underlying127
  have hup := Try.underlying29
  have HO : Aside0 (Own w0 w ((gw, .cells #[.slice A n c, .pointer (some ⟨gr, 0, none⟩)] 91 (0, 0)) :: (gr, .cells #[.int .i64 (Z : Int), .slice AS N cS] 129 (0, 0)) :: (RK ++ (X ++ L)))) := ⟨hO⟩
  have HS := Aside0.mk hS
  clear hO hS
  go_enter Try.func89, Try.ntmps89
  go_wp2_with (first | ((with_reducible refine gate_dst (N := 3) rfl ?_); refine own_box HO.out ?hg (N := 3) ?hd (cs := #[.int .i64 x, .int .i64 y]) (t := 54) ?hr ?_; (case hd => rfl); (case hg => rfl); (case hr => first | (go_simp; done) | (go_simp; rfl) | kernel_rfl); intro g3 w3 hO_; clear HO; have HO := Aside0.mk hO_; clear hO_))
  go_loopg [5] n (fun gk v5 w' => ∃ i : Nat, v5 = .int .i64 (i : Int) ∧ Aside0 (i + gk = n) ∧ Aside0 (kfind (x, y) (K.drop i) i = r) ∧ Aside0 (Own w0 w' ((g3, .cells #[.int .i64 x, .int .i64 y] 54 (0, 0)) :: ((gw, .cells #[.slice A n c, .pointer (some ⟨gr, 0, none⟩)] 91 (0, 0)) :: (gr, .cells #[.int .i64 (Z : Int), .slice AS N cS] 129 (0, 0)) :: (RK ++ (X ++ L))))))
  case atStart => exact ⟨0, rfl, ⟨Nat.zero_add _⟩, ⟨hr⟩, HO⟩
  case round =>
    clear HO hr
    obtain ⟨i, rfl, HI, HF, HO⟩ := hrel
    cases gk with
    | zero =>
      have c1 : decide ((i : Int) < (n : Int)) = false := decide_eq_false (by have := HI.out; omega)
      have c1n : decide (i < n) = false := decide_eq_false (by have := HI.out; omega)
      have hr : r = -1 := by have := HF.out; rw [List.drop_eq_nil_of_le (by have := HI.out; have := HS.out.kl; omega)] at this; exact this.symm
      subst hr
      go_wp2_with (first | ((with_reducible refine gate_dst (N := 10) rfl ?_); refine own_load HO.out rfl (x := .tmp 9) (v := .slice A n c) rfl (by rfl) (by (repeat (first | exact .head | apply Ext.tail))) huks (by rfl) (by rfl) ?_))
      go_ret
      exact ⟨rfl, HO.out.drop⟩
    | succ m =>
      have hin : i < n := by have := HI.out; omega
      have hi : i < K.length := by have := HI.out; have := HS.out.kl; omega
      obtain ⟨gq, ck, hA, hRK, _, _, _, htk, _⟩ := RowOf.block HS.out.row (by omega)
      subst hA
      subst hRK
      have c1 : decide ((i : Int) < (n : Int)) = true := decide_eq_true (by omega)
      have c1n : decide (i < n) = true := decide_eq_true hin
      have hiw := w12 (x := (i : Int) + 1) (y := ((i + 1 : Nat) : Int)) (by omega) (by have := HS.out.nle; have := HS.out.hN; omega)
      have p1 := eq_true (show 0 ≤ (i : Int) by omega)
      have q1 := eq_true (show (i : Int) < (n : Int) by omega)
      have q1n := eq_true hin
      have HC0 := Aside0.mk (take_at htk (kcells_at K i hi).1)
      have HC1 := Aside0.mk (take_at htk (kcells_at K i hi).2)
      have hd : K.drop i = K[i] :: K.drop (i + 1) := List.drop_eq_getElem_cons hi
      have HF2 := HF.out
      rw [hd] at HF2
      unfold kfind at HF2
      clear hd htk HF
      generalize K[i] = kk at HC0 HC1 HF2
      obtain ⟨k1, k2⟩ := kk
      have hO_ : Own w0 _ ((g3, .cells #[.int .i64 x, .int .i64 y] 54 (0, 0)) :: (gw, .cells #[.slice (some ⟨gq, 0, none⟩) n c, .pointer (some ⟨gr, 0, none⟩)] 91 (0, 0)) :: (gr, .cells #[.int .i64 (Z : Int), .slice AS N cS] 129 (0, 0)) :: (gq, .cells ck 54 (0, 0)) :: (X ++ L)) := HO.out
      clear HO; have HO := Aside0.mk hO_; clear hO_
      have HF5 := Aside0.mk HF2
      have u1 := hiw.out.1
      have u1b := hiw.out.2
      clear HF2
      by_cases hk : k1 = x
      · by_cases hk2 : k2 = y
        · have HE1 := Aside0.mk hk
          have HE2 := Aside0.mk hk2
          have hr : (i : Int) = r := by have := HF5.out; rw [if_pos (by rw [hk, hk2])] at this; exact this
          subst hr
          clear hk hk2 hi hin
          go_wp2_with (first | ((with_reducible refine gate_dst (N := 10) rfl ?_); refine own_load HO.out rfl (x := .tmp 9) (v := .slice (some ⟨gq, 0, none⟩) n c) rfl (by rfl) (by (repeat (first | exact .head | apply Ext.tail))) huks (by rfl) (by rfl) ?_))
          refine start_ (n := 24) (S := fun W => Own w0 W ((gw, .cells #[.slice (some ⟨gq, 0, none⟩) n c, .pointer (some ⟨gr, 0, none⟩)] 91 (0, 0)) :: (gq, .cells ck 54 (0, 0)) :: (g3, .cells #[.int .i64 x, .int .i64 y] 54 (0, 0)) :: [])) (ds := []) #[false, false, false, false, false, false, false, false, false, false, false, false, false, false, false, false, false, false, false, false, false, false, false, false] (by kernel_rfl) rfl rfl (Own.drew (HO.out.picks (.cons (by (repeat (first | exact .head | apply Ext.tail))) (.cons (by (repeat (first | exact .head | apply Ext.tail))) (.cons (by (repeat (first | exact .head | apply Ext.tail))) (.nil)))))) (fun hHeld => ?_)
          have HO_ := Aside0.mk HO.out.drew
          clear HO
          have HO := HO_
          clear HO_
          generalize World.drew _ = wr at HO hHeld ⊢
          refine Hp.pu_ 0 15 (Hp.up 24 1) ?_
          refine Hp.pu_ 1 16 (Hp.up 24 2) ?_
          refine Hp.pu_ 2 17 (Hp.up 24 3) ?_
          refine take_ (i := 3) (N := some 18) (v := .slice (some ⟨gq, 0, none⟩) n c) (a' := ?_) (Hp.up 24 4) rfl rfl (by kernel_rfl) (fun _ _ _ h => h) (own_yield1 (by rfl) (x := .tmp 17) rfl (by rfl) (.head) huks (by rfl) rfl) hHeld ?_ ?_
          rotate_left
          · simp only [Act.put, List.setIfInBounds_toArray, List.set_cons_zero, List.set_cons_succ, i64_w, i32_w]
            rfl
          refine Hp.pu_ 4 19 (Hp.up 24 5) ?_
          refine Hp.pu_ 5 20 (Hp.up 24 6) ?_
          refine Hp.pu_ 6 21 (Hp.up 24 7) ?_
          refine take_ (i := 7) (N := some 22) (v := .int .i64 k1) (a' := ?_) (Hp.up 24 8) rfl rfl (by kernel_rfl) (fun _ _ _ h => h) (own_yield1 (by rfl) (x := .tmp 21) rfl (by rfl) (.tail .head) hui (by rfl) HC0.out) hHeld ?_ ?_
          rotate_left
          · simp only [Act.put, List.setIfInBounds_toArray, List.set_cons_zero, List.set_cons_succ, i64_w, i32_w]
            rfl
          refine Hp.pu_ 8 23 (Hp.up 24 9) ?_
          refine take_ (i := 9) (N := some 24) (v := .int .i64 x) (a' := ?_) (Hp.up 24 10) rfl rfl (by kernel_rfl) (fun _ _ _ h => h) (own_yield1 (by rfl) (x := .tmp 23) rfl (by rfl) (.tail (.tail .head)) hui (by rfl) rfl) hHeld ?_ ?_
          rotate_left
          · simp only [Act.put, List.setIfInBounds_toArray, List.set_cons_zero, List.set_cons_succ, i64_w, i32_w]
            rfl
          refine pure_ (i := 10) (N := some 25) (v := .bool true) (a' := ?_) (Hp.up 24 11) rfl rfl (by kernel_rfl) (fun _ _ _ h => h) (Or.inl ⟨by rfl, fun w' => (by (go_simp; simp [HE1.out]))⟩) ?_ ?_
          rotate_left
          · simp only [Act.put, List.setIfInBounds_toArray, List.set_cons_zero, List.set_cons_succ, i64_w, i32_w]
            rfl
          refine Hp.pu_ 11 26 (Hp.up 24 12) ?_
          refine Hp.pu_ 12 27 (Hp.up 24 13) ?_
          refine Hp.pu_ 13 28 (Hp.up 24 14) ?_
          refine Hp.pu_ 14 29 (Hp.up 24 15) ?_
          refine take_ (i := 15) (N := some 30) (v := .slice (some ⟨gq, 0, none⟩) n c) (a' := ?_) (Hp.up 24 16) rfl rfl (by kernel_rfl) (fun _ _ _ h => h) (own_yield1 (by rfl) (x := .tmp 29) rfl (by rfl) (.head) huks (by rfl) rfl) hHeld ?_ ?_
          rotate_left
          · simp only [Act.put, List.setIfInBounds_toArray, List.set_cons_zero, List.set_cons_succ, i64_w, i32_w]
            rfl
          refine Hp.pu_ 16 31 (Hp.up 24 17) ?_
          refine Hp.pu_ 17 32 (Hp.up 24 18) ?_
          refine Hp.pu_ 18 33 (Hp.up 24 19) ?_
          refine take_ (i := 19) (N := some 34) (v := .int .i64 k2) (a' := ?_) (Hp.up 24 20) rfl rfl (by kernel_rfl) (fun _ _ _ h => h) (own_yield1 (by rfl) (x := .tmp 33) rfl (by rfl) (.tail .head) hui (by rfl) HC1.out) hHeld ?_ ?_
          rotate_left
          · simp only [Act.put, List.setIfInBounds_toArray, List.set_cons_zero, List.set_cons_succ, i64_w, i32_w]
            rfl
          refine Hp.pu_ 20 35 (Hp.up 24 21) ?_
          refine take_ (i := 21) (N := some 36) (v := .int .i64 y) (a' := ?_) (Hp.up 24 22) rfl rfl (by kernel_rfl) (fun _ _ _ h => h) (own_yield1 (by rfl) (x := .tmp 35) rfl (by rfl) (.tail (.tail .head)) hui (by rfl) rfl) hHeld ?_ ?_
          rotate_left
          · simp only [Act.put, List.setIfInBounds_toArray, List.set_cons_zero, List.set_cons_succ, i64_w, i32_w]
            rfl
          refine pure_ (i := 22) (N := some 37) (v := .bool true) (a' := ?_) (Hp.up 24 23) rfl rfl (by kernel_rfl) (fun _ _ _ h => h) (Or.inl ⟨by rfl, fun w' => (by (go_simp; simp [HE2.out]))⟩) ?_ ?_
          rotate_left
          · simp only [Act.put, List.setIfInBounds_toArray, List.set_cons_zero, List.set_cons_succ, i64_w, i32_w]
            rfl
          refine Hp.pu_ 23 38 (Hp.up 24 24) ?_
          refine done_ (by kernel_rfl) ?_
          clear hHeld
          go_wp2
          go_ret
          exact ⟨rfl, HO.out.drop⟩
        · have HE1 := Aside0.mk hk
          have HE2 := Aside0.mk hk2
          have HF3 : Aside0 (kfind (x, y) (K.drop (i + 1)) (i + 1) = r) := ⟨by have := HF5.out; rw [if_neg (by intro h; exact hk2 (Prod.mk.inj h).2)] at this; exact this⟩
          clear hk hk2 hi hin
          go_wp2_with (first | ((with_reducible refine gate_dst (N := 10) rfl ?_); refine own_load HO.out rfl (x := .tmp 9) (v := .slice (some ⟨gq, 0, none⟩) n c) rfl (by rfl) (by (repeat (first | exact .head | apply Ext.tail))) huks (by rfl) (by rfl) ?_))
          refine start_ (n := 24) (S := fun W => Own w0 W ((gw, .cells #[.slice (some ⟨gq, 0, none⟩) n c, .pointer (some ⟨gr, 0, none⟩)] 91 (0, 0)) :: (gq, .cells ck 54 (0, 0)) :: (g3, .cells #[.int .i64 x, .int .i64 y] 54 (0, 0)) :: [])) (ds := []) #[false, false, false, false, false, false, false, false, false, false, false, false, false, false, false, false, false, false, false, false, false, false, false, false] (by kernel_rfl) rfl rfl (Own.drew (HO.out.picks (.cons (by (repeat (first | exact .head | apply Ext.tail))) (.cons (by (repeat (first | exact .head | apply Ext.tail))) (.cons (by (repeat (first | exact .head | apply Ext.tail))) (.nil)))))) (fun hHeld => ?_)
          have HO_ := Aside0.mk HO.out.drew
          clear HO
          have HO := HO_
          clear HO_
          generalize World.drew _ = wr at HO hHeld ⊢
          refine Hp.pu_ 0 15 (Hp.up 24 1) ?_
          refine Hp.pu_ 1 16 (Hp.up 24 2) ?_
          refine Hp.pu_ 2 17 (Hp.up 24 3) ?_
          refine take_ (i := 3) (N := some 18) (v := .slice (some ⟨gq, 0, none⟩) n c) (a' := ?_) (Hp.up 24 4) rfl rfl (by kernel_rfl) (fun _ _ _ h => h) (own_yield1 (by rfl) (x := .tmp 17) rfl (by rfl) (.head) huks (by rfl) rfl) hHeld ?_ ?_
          rotate_left
          · simp only [Act.put, List.setIfInBounds_toArray, List.set_cons_zero, List.set_cons_succ, i64_w, i32_w]
            rfl
          refine Hp.pu_ 4 19 (Hp.up 24 5) ?_
          refine Hp.pu_ 5 20 (Hp.up 24 6) ?_
          refine Hp.pu_ 6 21 (Hp.up 24 7) ?_
          refine take_ (i := 7) (N := some 22) (v := .int .i64 k1) (a' := ?_) (Hp.up 24 8) rfl rfl (by kernel_rfl) (fun _ _ _ h => h) (own_yield1 (by rfl) (x := .tmp 21) rfl (by rfl) (.tail .head) hui (by rfl) HC0.out) hHeld ?_ ?_
          rotate_left
          · simp only [Act.put, List.setIfInBounds_toArray, List.set_cons_zero, List.set_cons_succ, i64_w, i32_w]
            rfl
          refine Hp.pu_ 8 23 (Hp.up 24 9) ?_
          refine take_ (i := 9) (N := some 24) (v := .int .i64 x) (a' := ?_) (Hp.up 24 10) rfl rfl (by kernel_rfl) (fun _ _ _ h => h) (own_yield1 (by rfl) (x := .tmp 23) rfl (by rfl) (.tail (.tail .head)) hui (by rfl) rfl) hHeld ?_ ?_
          rotate_left
          · simp only [Act.put, List.setIfInBounds_toArray, List.set_cons_zero, List.set_cons_succ, i64_w, i32_w]
            rfl
          refine pure_ (i := 10) (N := some 25) (v := .bool true) (a' := ?_) (Hp.up 24 11) rfl rfl (by kernel_rfl) (fun _ _ _ h => h) (Or.inl ⟨by rfl, fun w' => (by (go_simp; simp [HE1.out]))⟩) ?_ ?_
          rotate_left
          · simp only [Act.put, List.setIfInBounds_toArray, List.set_cons_zero, List.set_cons_succ, i64_w, i32_w]
            rfl
          refine Hp.pu_ 11 26 (Hp.up 24 12) ?_
          refine Hp.pu_ 12 27 (Hp.up 24 13) ?_
          refine Hp.pu_ 13 28 (Hp.up 24 14) ?_
          refine Hp.pu_ 14 29 (Hp.up 24 15) ?_
          refine take_ (i := 15) (N := some 30) (v := .slice (some ⟨gq, 0, none⟩) n c) (a' := ?_) (Hp.up 24 16) rfl rfl (by kernel_rfl) (fun _ _ _ h => h) (own_yield1 (by rfl) (x := .tmp 29) rfl (by rfl) (.head) huks (by rfl) rfl) hHeld ?_ ?_
          rotate_left
          · simp only [Act.put, List.setIfInBounds_toArray, List.set_cons_zero, List.set_cons_succ, i64_w, i32_w]
            rfl
          refine Hp.pu_ 16 31 (Hp.up 24 17) ?_
          refine Hp.pu_ 17 32 (Hp.up 24 18) ?_
          refine Hp.pu_ 18 33 (Hp.up 24 19) ?_
          refine take_ (i := 19) (N := some 34) (v := .int .i64 k2) (a' := ?_) (Hp.up 24 20) rfl rfl (by kernel_rfl) (fun _ _ _ h => h) (own_yield1 (by rfl) (x := .tmp 33) rfl (by rfl) (.tail .head) hui (by rfl) HC1.out) hHeld ?_ ?_
          rotate_left
          · simp only [Act.put, List.setIfInBounds_toArray, List.set_cons_zero, List.set_cons_succ, i64_w, i32_w]
            rfl
          refine Hp.pu_ 20 35 (Hp.up 24 21) ?_
          refine take_ (i := 21) (N := some 36) (v := .int .i64 y) (a' := ?_) (Hp.up 24 22) rfl rfl (by kernel_rfl) (fun _ _ _ h => h) (own_yield1 (by rfl) (x := .tmp 35) rfl (by rfl) (.tail (.tail .head)) hui (by rfl) rfl) hHeld ?_ ?_
          rotate_left
          · simp only [Act.put, List.setIfInBounds_toArray, List.set_cons_zero, List.set_cons_succ, i64_w, i32_w]
            rfl
          refine pure_ (i := 22) (N := some 37) (v := .bool false) (a' := ?_) (Hp.up 24 23) rfl rfl (by kernel_rfl) (fun _ _ _ h => h) (Or.inl ⟨by rfl, fun w' => (by (go_simp; simp [HE2.out]))⟩) ?_ ?_
          rotate_left
          · simp only [Act.put, List.setIfInBounds_toArray, List.set_cons_zero, List.set_cons_succ, i64_w, i32_w]
            rfl
          refine Hp.pu_ 23 38 (Hp.up 24 24) ?_
          refine done_ (by kernel_rfl) ?_
          clear hHeld
          go_wp2
          go_roundg m
          case measure => clear u1 u1b; omega
          case rel => exact ⟨i + 1, rfl, ⟨by clear u1 u1b; have := HI.out; omega⟩, HF3, HO⟩
      · have HE1 := Aside0.mk hk
        have HF3 : Aside0 (kfind (x, y) (K.drop (i + 1)) (i + 1) = r) := ⟨by have := HF5.out; rw [if_neg (by intro h; exact hk (Prod.mk.inj h).1)] at this; exact this⟩
        clear hk hi hin
        go_wp2_with (first | ((with_reducible refine gate_dst (N := 10) rfl ?_); refine own_load HO.out rfl (x := .tmp 9) (v := .slice (some ⟨gq, 0, none⟩) n c) rfl (by rfl) (by (repeat (first | exact .head | apply Ext.tail))) huks (by rfl) (by rfl) ?_))
        refine start_ (n := 24) (S := fun W => Own w0 W ((gw, .cells #[.slice (some ⟨gq, 0, none⟩) n c, .pointer (some ⟨gr, 0, none⟩)] 91 (0, 0)) :: (gq, .cells ck 54 (0, 0)) :: (g3, .cells #[.int .i64 x, .int .i64 y] 54 (0, 0)) :: [])) (ds := []) #[false, false, false, false, false, false, false, false, false, false, false, false, false, false, false, false, false, false, false, false, false, false, false, false] (by kernel_rfl) rfl rfl (Own.drew (HO.out.picks (.cons (by (repeat (first | exact .head | apply Ext.tail))) (.cons (by (repeat (first | exact .head | apply Ext.tail))) (.cons (by (repeat (first | exact .head | apply Ext.tail))) (.nil)))))) (fun hHeld => ?_)
        have HO_ := Aside0.mk HO.out.drew
        clear HO
        have HO := HO_
        clear HO_
        generalize World.drew _ = wr at HO hHeld ⊢
        refine Hp.pu_ 0 15 (Hp.up 24 1) ?_
        refine Hp.pu_ 1 16 (Hp.up 24 2) ?_
        refine Hp.pu_ 2 17 (Hp.up 24 3) ?_
        refine take_ (i := 3) (N := some 18) (v := .slice (some ⟨gq, 0, none⟩) n c) (a' := ?_) (Hp.up 24 4) rfl rfl (by kernel_rfl) (fun _ _ _ h => h) (own_yield1 (by rfl) (x := .tmp 17) rfl (by rfl) (.head) huks (by rfl) rfl) hHeld ?_ ?_
        rotate_left
        · simp only [Act.put, List.setIfInBounds_toArray, List.set_cons_zero, List.set_cons_succ, i64_w, i32_w]
          rfl
        refine Hp.pu_ 4 19 (Hp.up 24 5) ?_
        refine Hp.pu_ 5 20 (Hp.up 24 6) ?_
        refine Hp.pu_ 6 21 (Hp.up 24 7) ?_
        refine take_ (i := 7) (N := some 22) (v := .int .i64 k1) (a' := ?_) (Hp.up 24 8) rfl rfl (by kernel_rfl) (fun _ _ _ h => h) (own_yield1 (by rfl) (x := .tmp 21) rfl (by rfl) (.tail .head) hui (by rfl) HC0.out) hHeld ?_ ?_
        rotate_left
        · simp only [Act.put, List.setIfInBounds_toArray, List.set_cons_zero, List.set_cons_succ, i64_w, i32_w]
          rfl
        refine Hp.pu_ 8 23 (Hp.up 24 9) ?_
        refine take_ (i := 9) (N := some 24) (v := .int .i64 x) (a' := ?_) (Hp.up 24 10) rfl rfl (by kernel_rfl) (fun _ _ _ h => h) (own_yield1 (by rfl) (x := .tmp 23) rfl (by rfl) (.tail (.tail .head)) hui (by rfl) rfl) hHeld ?_ ?_
        rotate_left
        · simp only [Act.put, List.setIfInBounds_toArray, List.set_cons_zero, List.set_cons_succ, i64_w, i32_w]
          rfl
        refine pure_ (i := 10) (N := some 25) (v := .bool false) (a' := ?_) (Hp.up 24 11) rfl rfl (by kernel_rfl) (fun _ _ _ h => h) (Or.inl ⟨by rfl, fun w' => (by (go_simp; simp [HE1.out]))⟩) ?_ ?_
        rotate_left
        · simp only [Act.put, List.setIfInBounds_toArray, List.set_cons_zero, List.set_cons_succ, i64_w, i32_w]
          rfl
        refine Hp.pu_ 11 26 (Hp.up 24 12) ?_
        refine pure_ (i := 12) (N := some 27) (v := undef) (a' := ?_) (Hp.up 24 13) rfl rfl (by kernel_rfl) (fun _ _ _ h => h) (Or.inr ⟨by rfl, rfl⟩) ?_ ?_
        rotate_left
        · simp only [Act.put, List.setIfInBounds_toArray, List.set_cons_zero, List.set_cons_succ, i64_w, i32_w]
          rfl
        refine pure_ (i := 13) (N := some 28) (v := undef) (a' := ?_) (Hp.up 24 14) rfl rfl (by kernel_rfl) (fun _ _ _ h => h) (Or.inr ⟨by rfl, rfl⟩) ?_ ?_
        rotate_left
        · simp only [Act.put, List.setIfInBounds_toArray, List.set_cons_zero, List.set_cons_succ, i64_w, i32_w]
          rfl
        refine pure_ (i := 14) (N := some 29) (v := undef) (a' := ?_) (Hp.up 24 15) rfl rfl (by kernel_rfl) (fun _ _ _ h => h) (Or.inr ⟨by rfl, rfl⟩) ?_ ?_
        rotate_left
        · simp only [Act.put, List.setIfInBounds_toArray, List.set_cons_zero, List.set_cons_succ, i64_w, i32_w]
          rfl
        refine pure_ (i := 15) (N := some 30) (v := undef) (a' := ?_) (Hp.up 24 16) rfl rfl (by kernel_rfl) (fun _ _ _ h => h) (Or.inr ⟨by rfl, rfl⟩) ?_ ?_
        rotate_left
        · simp only [Act.put, List.setIfInBounds_toArray, List.set_cons_zero, List.set_cons_succ, i64_w, i32_w]
          rfl
        refine pure_ (i := 16) (N := some 31) (v := undef) (a' := ?_) (Hp.up 24 17) rfl rfl (by kernel_rfl) (fun _ _ _ h => h) (Or.inr ⟨by rfl, rfl⟩) ?_ ?_
        rotate_left
        · simp only [Act.put, List.setIfInBounds_toArray, List.set_cons_zero, List.set_cons_succ, i64_w, i32_w]
          rfl
        refine pure_ (i := 17) (N := some 32) (v := undef) (a' := ?_) (Hp.up 24 18) rfl rfl (by kernel_rfl) (fun _ _ _ h => h) (Or.inr ⟨by rfl, rfl⟩) ?_ ?_
        rotate_left
        · simp only [Act.put, List.setIfInBounds_toArray, List.set_cons_zero, List.set_cons_succ, i64_w, i32_w]
          rfl
        refine pure_ (i := 18) (N := some 33) (v := undef) (a' := ?_) (Hp.up 24 19) rfl rfl (by kernel_rfl) (fun _ _ _ h => h) (Or.inr ⟨by rfl, rfl⟩) ?_ ?_
        rotate_left
        · simp only [Act.put, List.setIfInBounds_toArray, List.set_cons_zero, List.set_cons_succ, i64_w, i32_w]
          rfl
        refine pure_ (i := 19) (N := some 34) (v := undef) (a' := ?_) (Hp.up 24 20) rfl rfl (by kernel_rfl) (fun _ _ _ h => h) (Or.inr ⟨by rfl, rfl⟩) ?_ ?_
        rotate_left
        · simp only [Act.put, List.setIfInBounds_toArray, List.set_cons_zero, List.set_cons_succ, i64_w, i32_w]
          rfl
        refine pure_ (i := 20) (N := some 35) (v := undef) (a' := ?_) (Hp.up 24 21) rfl rfl (by kernel_rfl) (fun _ _ _ h => h) (Or.inr ⟨by rfl, rfl⟩) ?_ ?_
        rotate_left
        · simp only [Act.put, List.setIfInBounds_toArray, List.set_cons_zero, List.set_cons_succ, i64_w, i32_w]
          rfl
        refine pure_ (i := 21) (N := some 36) (v := undef) (a' := ?_) (Hp.up 24 22) rfl rfl (by kernel_rfl) (fun _ _ _ h => h) (Or.inr ⟨by rfl, rfl⟩) ?_ ?_
        rotate_left
        · simp only [Act.put, List.setIfInBounds_toArray, List.set_cons_zero, List.set_cons_succ, i64_w, i32_w]
          rfl
        refine pure_ (i := 22) (N := some 37) (v := undef) (a' := ?_) (Hp.up 24 23) rfl rfl (by kernel_rfl) (fun _ _ _ h => h) (Or.inr ⟨by rfl, rfl⟩) ?_ ?_
        rotate_left
        · simp only [Act.put, List.setIfInBounds_toArray, List.set_cons_zero, List.set_cons_succ, i64_w, i32_w]
          rfl
        refine Hp.pu_ 23 38 (Hp.up 24 24) ?_
        refine done_ (by kernel_rfl) ?_
        clear hHeld
        go_wp2
        go_roundg m
        case measure => clear u1 u1b; omega
        case rel => exact ⟨i + 1, rfl, ⟨by clear u1 u1b; have := HI.out; omega⟩, HF3, HO⟩
theorem take_two {cur : Array Value} {K : List (Int × Int)} {n i : Nat} (h : cur.toList.take (n * 2) = kcells K) (hi : i < K.length) (hin : i < n) : (cur.toList.drop (i * 2)).take [Value.int .i64 K[i].1, Value.int .i64 K[i].2].length = [Value.int .i64 K[i].1, Value.int .i64 K[i].2] := by
  apply List.ext_getElem?
  intro j
  rw [List.getElem?_take]
  obtain ⟨h0, h1⟩ := kcells_at K i hi
  rw [← h, List.getElem?_take, if_pos (by omega)] at h0 h1
  rcases j with _ | _ | j
  · rw [if_pos (by simp), List.getElem?_drop, Nat.add_zero, h0]; rfl
  · rw [if_pos (by simp), List.getElem?_drop, h1]; rfl
  · rw [if_neg (by simp)]; simp
set_option maxHeartbeats 8000000 in
set_option maxRecDepth 100000 in
theorem keyed_true (w0 w : World) (L R1 R2 : Hl) (A1 A2 : Option Addr) (n c1 c2 : Nat) (K : List (Int × Int)) (h1 : RowOf 54 2 R1 (.slice A1 n c1) n (kcells K)) (h2 : RowOf 54 2 R2 (.slice A2 n c2) n (kcells K)) (hK : K.length = n) (hn : n ≤ 64) (hO : Own w0 w (R1 ++ (R2 ++ L))) :
    Calls Try.prog 90 #[.slice A1 n c1, .slice A2 n c2] w fun e w' => e = .returned (.bool true) ∧ Own w0 w' (R1 ++ (R2 ++ L)) := by
  have hui := Try.underlying3
  have huk := Try.underlying54
  have huks := Try.underlying89
  have HO : Aside0 (Own w0 w (R1 ++ (R2 ++ L))) := ⟨hO⟩
  have H1 := Aside0.mk h1
  have H2 := Aside0.mk h2
  have HK := Aside0.mk hK
  have HN := Aside0.mk hn
  clear hO h1 h2 hK hn
  go_enter Try.func90, Try.ntmps90
  go_wp2
  go_loopg [5] n (fun gk v5 w' => ∃ i : Nat, v5 = .int .i64 (i : Int) ∧ Aside0 (i + gk = n) ∧ Aside0 (Own w0 w' (R1 ++ (R2 ++ L))))
  case atStart => exact ⟨0, rfl, ⟨Nat.zero_add _⟩, HO⟩
  case round =>
    clear HO
    obtain ⟨i, rfl, HI, HO⟩ := hrel
    cases gk with
    | zero =>
      have d1 : decide ((i : Int) < (n : Int)) = false := decide_eq_false (by have := HI.out; omega)
      have d1n : decide (i < n) = false := decide_eq_false (by have := HI.out; omega)
      go_wp2
      go_ret
      exact ⟨rfl, HO.out⟩
    | succ m =>
      have hin : i < n := by have := HI.out; omega
      have hi : i < K.length := by have := HK.out; omega
      obtain ⟨ga, ca, hA, hRK, _, _, _, htk, _⟩ := RowOf.block H1.out (by omega)
      obtain ⟨gb, cb, hB, hRB, _, _, _, htb, _⟩ := RowOf.block H2.out (by omega)
      subst hA
      subst hRK
      subst hB
      subst hRB
      have d1 : decide ((i : Int) < (n : Int)) = true := decide_eq_true (by omega)
      have d1n : decide (i < n) = true := decide_eq_true hin
      have hiw := w12 (x := (i : Int) + 1) (y := ((i + 1 : Nat) : Int)) (by omega) (by have := HN.out; omega)
      have p1 := eq_true (show 0 ≤ (i : Int) by omega)
      have q1 := eq_true (show (i : Int) < (n : Int) by omega)
      have q1n := eq_true hin
      have HC1 := Aside0.mk (take_two htk hi hin)
      have HC2 := Aside0.mk (take_two htb hi hin)
      clear htk htb
      generalize K[i] = kk at HC1 HC2
      obtain ⟨k1, k2⟩ := kk
      have hO_ : Own w0 _ ((ga, .cells ca 54 (0, 0)) :: (gb, .cells cb 54 (0, 0)) :: L) := HO.out
      clear HO; have HO := Aside0.mk hO_; clear hO_
      clear hi hin
      have u1 := hiw.out.1
      have u1b := hiw.out.2
      go_wp2
      refine start_ (n := 9) (S := fun W => Own w0 W ((ga, .cells ca 54 (0, 0)) :: (gb, .cells cb 54 (0, 0)) :: [])) (ds := []) #[false, false, false, false, false, false, false, false, false] (by kernel_rfl) rfl rfl (Own.drew (HO.out.picks (.cons (by (repeat (first | exact .head | apply Ext.tail))) (.cons (by (repeat (first | exact .head | apply Ext.tail))) (.nil))))) (fun hHeld => ?_)
      have HO_ := Aside0.mk HO.out.drew
      clear HO
      have HO := HO_
      clear HO_
      generalize World.drew _ = wr at HO hHeld ⊢
      refine Hp.pu_ 0 17 (Hp.up 9 1) ?_
      refine Hp.pu_ 1 18 (Hp.up 9 2) ?_
      refine Hp.pu_ 2 19 (Hp.up 9 3) ?_
      refine take_ (i := 3) (N := some 20) (v := .agg #[.int .i64 k1, .int .i64 k2]) (a' := ?_) (Hp.up 9 4) rfl rfl (by kernel_rfl) (fun _ _ _ h => h) (own_yieldN (by rfl) (x := .tmp 19) rfl (by rfl) (.head) (vs := [.int .i64 k1, .int .i64 k2]) HC1.out huk (by rfl) (by kernel_rfl) rfl) hHeld ?_ ?_
      rotate_left
      · simp only [Act.put, List.setIfInBounds_toArray, List.set_cons_zero, List.set_cons_succ, i64_w, i32_w]
        rfl
      refine Hp.pu_ 4 21 (Hp.up 9 5) ?_
      refine Hp.pu_ 5 22 (Hp.up 9 6) ?_
      refine Hp.pu_ 6 23 (Hp.up 9 7) ?_
      refine take_ (i := 7) (N := some 24) (v := .agg #[.int .i64 k1, .int .i64 k2]) (a' := ?_) (Hp.up 9 8) rfl rfl (by kernel_rfl) (fun _ _ _ h => h) (own_yieldN (by rfl) (x := .tmp 23) rfl (by rfl) (.tail .head) (vs := [.int .i64 k1, .int .i64 k2]) HC2.out huk (by rfl) (by kernel_rfl) rfl) hHeld ?_ ?_
      rotate_left
      · simp only [Act.put, List.setIfInBounds_toArray, List.set_cons_zero, List.set_cons_succ, i64_w, i32_w]
        rfl
      refine pure_ (i := 8) (N := some 25) (v := .bool false) (a' := ?_) (Hp.up 9 9) rfl rfl (by kernel_rfl) (fun _ _ _ h => h) (Or.inl ⟨by rfl, fun w' => (by first | (go_simp; done) | (go_simp; simp))⟩) ?_ ?_
      rotate_left
      · simp only [Act.put, List.setIfInBounds_toArray, List.set_cons_zero, List.set_cons_succ, i64_w, i32_w]
        rfl
      refine done_ (by kernel_rfl) ?_
      clear hHeld
      go_wp2
      go_roundg m
      case measure => clear u1 u1b; omega
      case rel => exact ⟨i + 1, rfl, ⟨by clear u1 u1b; have := HI.out; omega⟩, HO⟩
set_option maxHeartbeats 8000000 in
set_option maxRecDepth 100000 in
theorem clone_key (w0 w : World) (L R : Hl) (v : Value) (n : Nat) (xs : List Value) (hR : RowOf 54 2 R v n xs) (h1 : ∀ u ∈ xs, u.oneCell' = true) (hn : n ≤ 1048576) (hO : Own w0 w (R ++ L)) :
    Calls Try.prog 88 #[v] w fun e w' => ∃ v', e = .returned v' ∧ ∃ R', RowOf 54 2 R' v' n xs ∧ Own w0 w' (R' ++ (R ++ L)) := by
  have huks := Try.underlying89
  have HO := Aside0.mk hO
  have HR := Aside0.mk hR
  have H1 := Aside0.mk h1
  have HN := Aside0.mk hn
  clear hO h1 hn
  rcases hR.2 with ⟨rfl, _, _⟩ | ⟨g, cap, cur, rfl, hRe, _, _, _, _⟩
  · go_enter Try.func88, Try.ntmps88
    go_wp2
    go_ret
    refine ⟨_, rfl, [], ?_, HO.out⟩
    have h := HR.out
    rcases h.2 with ⟨_, rfl, _⟩ | ⟨_, _, _, hh, _⟩
    · exact ⟨h.1, .inl ⟨rfl, rfl, rfl⟩⟩
    · cases hh
  · clear hR hRe
    go_enter Try.func88, Try.ntmps88
    go_wp2_with (first | ((with_reducible refine gate_dst (N := 5) rfl ?_); refine own_lit HO.out rfl (N := 5) rfl (cs := #[]) (t := 54) (n := 0) (m := 0) (by first | (go_simp; done) | (go_simp; rfl) | kernel_rfl) ?_; intro g5 w5 hO_; clear HO; have HO := Aside0.mk hO_; clear hO_) | ((with_reducible refine gate_dst (N := 7) rfl ?_); refine own_append (z := .agg #[.int .i64 0, .int .i64 0]) (size := 2) (bytes := 16) (R := [(g5, .cells #[] 54 (0, 0))]) (L := R ++ L) [] HO.out rfl rfl huks (by kernel_rfl) rfl (by rfl) ⟨rfl, .inr ⟨g5, 0, #[], rfl, rfl, Nat.le_refl _, by decide, rfl, rfl⟩⟩ (by rfl) (HR.out.src HO.out.drop huks H1.out) (by have := HN.out; show 0 + n ≤ 9223372036854775807; omega) (by have := HN.out; omega) ?_; intro v2 R2 wc hR2 hO_; have HR2 := Aside0.mk hR2; clear hR2; clear HO; have HO := Aside0.mk hO_; clear hO_))
    go_ret
    refine ⟨v2, rfl, R2, ?_, HO.out⟩
    have h := HR2.out
    rw [Nat.zero_add] at h
    exact h
set_option maxHeartbeats 8000000 in
set_option maxRecDepth 100000 in
theorem lkeys (w0 w : World) (L RK : Hl) (gl ga gb Z N NN : Nat) (A : Option Addr) (n c : Nat) (K : List (Int × Int)) (D : List (List Int)) (hN : LNum Z N NN) (hS : LSt Z N RK A n c K D) (hO : Own w0 w ((gl, .cells #[.slice A n c, .pointer (some ⟨ga, 0, none⟩)] 140 (0, 0)) :: (ga, .cells #[.int .i64 (Z : Int), .slice (some ⟨gb, 0, none⟩) NN NN] 126 (0, 0)) :: (gb, .cells (u8s D.flatten) 5 (0, 0)) :: (RK ++ L))) :
    Calls Try.prog 91 #[.pointer (some ⟨gl, 0, none⟩)] w fun e w' => ∃ v', e = .returned v' ∧ ∃ R', RowOf 54 2 R' v' n (kcells K) ∧ Own w0 w' (R' ++ ((gl, .cells #[.slice A n c, .pointer (some ⟨ga, 0, none⟩)] 140 (0, 0)) :: (ga, .cells #[.int .i64 (Z : Int), .slice (some ⟨gb, 0, none⟩) NN NN] 126 (0, 0)) :: (gb, .cells (u8s D.flatten) 5 (0, 0)) :: (RK ++ L))) := by
  have hui := Try.underlying3
  have hul := Try.underlying32
  have huk := Try.underlying54
  have huks := Try.underlying89
  have hup := Try.underlying24
  have HO : Aside0 (Own w0 w ((gl, .cells #[.slice A n c, .pointer (some ⟨ga, 0, none⟩)] 140 (0, 0)) :: (ga, .cells #[.int .i64 (Z : Int), .slice (some ⟨gb, 0, none⟩) NN NN] 126 (0, 0)) :: (gb, .cells (u8s D.flatten) 5 (0, 0)) :: (RK ++ L))) := ⟨hO⟩
  have HN := Aside0.mk hN
  have HS := Aside0.mk hS
  clear hO hN hS
  go_enter Try.func91, Try.ntmps91
  go_wp2_with (first | ((with_reducible refine gate_dst (N := 8) rfl ?_); refine own_load HO.out rfl (x := .tmp 7) (v := .slice A n c) rfl (by rfl) (by (repeat (first | exact .head | apply Ext.tail))) huks (by rfl) (by rfl) ?_) | ((with_reducible refine gate_callee (f := 88) rfl ?_); (with_reducible refine gate_dst (N := 9) rfl ?_); refine goesL_ (some 9) rfl rfl Try.func88 (by kernel_rfl) rfl #[.slice A n c] rfl (by (try simp only [List.map_toArray, List.map_cons, List.map_nil]); first | done | rfl) ?_; (with_reducible refine (clone_key w0 _ ((gl, .cells #[.slice A n c, .pointer (some ⟨ga, 0, none⟩)] 140 (0, 0)) :: (ga, .cells #[.int .i64 (Z : Int), .slice (some ⟨gb, 0, none⟩) NN NN] 126 (0, 0)) :: (gb, .cells (u8s D.flatten) 5 (0, 0)) :: L) RK (.slice A n c) n (kcells K) HS.out.row (kcells_one _) (by have := HS.out.nle; have := HN.out.hn; omega) (Own.swap3 (B := [(gl, .cells #[.slice A n c, .pointer (some ⟨ga, 0, none⟩)] 140 (0, 0)), (ga, .cells #[.int .i64 (Z : Int), .slice (some ⟨gb, 0, none⟩) NN NN] 126 (0, 0)), (gb, .cells (u8s D.flatten) 5 (0, 0))]) (R := RK) (L := L) HO.out)).mono ?_); rintro e wx ⟨v2, rfl, R2, hR2, hO_⟩; refine ⟨_, rfl, ?_⟩; have HR2 := Aside0.mk hR2; clear hR2; have hO_ := Own.swapfour (S := R2) (B := RK) (R := [(gl, .cells #[.slice A n c, .pointer (some ⟨ga, 0, none⟩)] 140 (0, 0)), (ga, .cells #[.int .i64 (Z : Int), .slice (some ⟨gb, 0, none⟩) NN NN] 126 (0, 0)), (gb, .cells (u8s D.flatten) 5 (0, 0))]) (L := L) hO_; clear HO; have HO := Aside0.mk hO_; clear hO_))
  go_ret
  exact ⟨_, rfl, R2, HR2.out, HO.out⟩
set_option maxHeartbeats 8000000 in
set_option maxRecDepth 100000 in
theorem lbytes2 (w0 w : World) (L RK : Hl) (gl ga gb Z N NN : Nat) (A : Option Addr) (n c : Nat) (K : List (Int × Int)) (D : List (List Int)) (hN : LNum Z N NN) (hS : LSt Z N RK A n c K D) (hO : Own w0 w ((gl, .cells #[.slice A n c, .pointer (some ⟨ga, 0, none⟩)] 140 (0, 0)) :: (ga, .cells #[.int .i64 (Z : Int), .slice (some ⟨gb, 0, none⟩) NN NN] 126 (0, 0)) :: (gb, .cells (u8s D.flatten) 5 (0, 0)) :: (RK ++ L))) :
    Calls Try.prog 39 #[.pointer (some ⟨gl, 0, none⟩)] w fun e w' => ∃ v', e = .returned v' ∧ ∃ R', RowOf 5 1 R' v' NN (D.flatten.map (Value.int .u8)) ∧ Own w0 w' (R' ++ ((gl, .cells #[.slice A n c, .pointer (some ⟨ga, 0, none⟩)] 140 (0, 0)) :: (ga, .cells #[.int .i64 (Z : Int), .slice (some ⟨gb, 0, none⟩) NN NN] 126 (0, 0)) :: (gb, .cells (u8s D.flatten) 5 (0, 0)) :: (RK ++ L))) := by
  have hui := Try.underlying3
  have hul := Try.underlying32
  have huk := Try.underlying54
  have huks := Try.underlying89
  have hup := Try.underlying24
  have HO : Aside0 (Own w0 w ((gl, .cells #[.slice A n c, .pointer (some ⟨ga, 0, none⟩)] 140 (0, 0)) :: (ga, .cells #[.int .i64 (Z : Int), .slice (some ⟨gb, 0, none⟩) NN NN] 126 (0, 0)) :: (gb, .cells (u8s D.flatten) 5 (0, 0)) :: (RK ++ L))) := ⟨hO⟩
  have HN := Aside0.mk hN
  have HS := Aside0.mk hS
  clear hO hN hS
  go_enter Try.func39, Try.ntmps39
  go_wp2_with (first | ((with_reducible refine gate_dst (N := 8) rfl ?_); refine own_load HO.out rfl (x := .tmp 7) (v := .pointer (some ⟨ga, 0, none⟩)) rfl (by rfl) (by (repeat (first | exact .head | apply Ext.tail))) hup (by rfl) (by rfl) ?_) | ((with_reducible refine gate_callee (f := 18) rfl ?_); (with_reducible refine gate_dst (N := 9) rfl ?_); refine goesL_ (some 9) rfl rfl Try.func18 (by kernel_rfl) rfl #[.pointer (some ⟨ga, 0, none⟩)] rfl (by (try simp only [List.map_toArray, List.map_cons, List.map_nil]); first | done | rfl) ?_; (with_reducible refine (bytes_calls w0 _ ((gl, .cells #[.slice A n c, .pointer (some ⟨ga, 0, none⟩)] 140 (0, 0)) :: (RK ++ L)) ga gb (Z : Int) NN D.flatten (HS.out.fl HN.out) HN.out.hm HO.out.toA).mono ?_); rintro e wx ⟨v2, rfl, R2, hR2, hO_⟩; refine ⟨_, rfl, ?_⟩; obtain ⟨A2, c2, rfl⟩ := RowOf.shape hR2; have HR2 := Aside0.mk hR2; clear hR2; have hO_ := Own.swapfour (S := R2) (B := [(ga, .cells #[.int .i64 (Z : Int), .slice (some ⟨gb, 0, none⟩) NN NN] 126 (0, 0)), (gb, .cells (u8s D.flatten) 5 (0, 0))]) (R := [(gl, .cells #[.slice A n c, .pointer (some ⟨ga, 0, none⟩)] 140 (0, 0))]) (L := RK ++ L) hO_; clear HO; have HO := Aside0.mk hO_; clear hO_))
  go_ret
  exact ⟨_, rfl, R2, HR2.out, HO.out⟩
set_option maxHeartbeats 8000000 in
set_option maxRecDepth 100000 in
theorem lslot_none (w0 w : World) (L RK : Hl) (gl ga gb Z N NN : Nat) (A : Option Addr) (n c : Nat) (K : List (Int × Int)) (D : List (List Int)) (hN : LNum Z N NN) (hS : LSt Z N RK A n c K D) (k : Int) (hk : k < 0 ∨ (N : Int) ≤ k) (hO : Own w0 w ((gl, .cells #[.slice A n c, .pointer (some ⟨ga, 0, none⟩)] 140 (0, 0)) :: (ga, .cells #[.int .i64 (Z : Int), .slice (some ⟨gb, 0, none⟩) NN NN] 126 (0, 0)) :: (gb, .cells (u8s D.flatten) 5 (0, 0)) :: (RK ++ L))) :
    Calls Try.prog 36 #[.pointer (some ⟨gl, 0, none⟩), .int .i64 k] w fun e w' => e = .returned (.tuple #[.slice none 0 0, .bool false]) ∧ Own w0 w' ((gl, .cells #[.slice A n c, .pointer (some ⟨ga, 0, none⟩)] 140 (0, 0)) :: (ga, .cells #[.int .i64 (Z : Int), .slice (some ⟨gb, 0, none⟩) NN NN] 126 (0, 0)) :: (gb, .cells (u8s D.flatten) 5 (0, 0)) :: (RK ++ L)) := by
  have hui := Try.underlying3
  have hul := Try.underlying32
  have huk := Try.underlying54
  have huks := Try.underlying89
  have hup := Try.underlying24
  have HO : Aside0 (Own w0 w ((gl, .cells #[.slice A n c, .pointer (some ⟨ga, 0, none⟩)] 140 (0, 0)) :: (ga, .cells #[.int .i64 (Z : Int), .slice (some ⟨gb, 0, none⟩) NN NN] 126 (0, 0)) :: (gb, .cells (u8s D.flatten) 5 (0, 0)) :: (RK ++ L))) := ⟨hO⟩
  have HN := Aside0.mk hN
  have HS := Aside0.mk hS
  clear hO hN hS
  have HK := Aside0.mk hk
  clear hk
  go_enter Try.func36, Try.ntmps36
  go_wp2_with (first | ((with_reducible refine gate_dst (N := 11) rfl ?_); refine own_load HO.out rfl (x := .tmp 10) (v := .pointer (some ⟨ga, 0, none⟩)) rfl (by rfl) (by (repeat (first | exact .head | apply Ext.tail))) hup (by rfl) (by rfl) ?_) | ((with_reducible refine gate_callee (f := 19) rfl ?_); (with_reducible refine gate_dst (N := 13) rfl ?_); refine goesL_ (some 13) rfl rfl Try.func19 (by kernel_rfl) rfl #[.pointer (some ⟨ga, 0, none⟩), .int .i64 k] rfl (by (try simp only [List.map_toArray, List.map_cons, List.map_nil]); first | done | rfl) ?_; (with_reducible refine (slot_none w0 _ ((gl, .cells #[.slice A n c, .pointer (some ⟨ga, 0, none⟩)] 140 (0, 0)) :: (RK ++ L)) ga gb (Z : Int) NN D.flatten k (N : Int) HN.out.hz HN.out.hn HN.out.hs HK.out HO.out.toA).mono ?_); rintro e wx ⟨rfl, hO_⟩; refine ⟨_, rfl, ?_⟩; have hO_ := hO_.fromA; clear HO; have HO := Aside0.mk hO_; clear hO_))
  refine bodyPost_ret (results_tmp2 rfl _ _ _) rfl ?_
  exact ⟨rfl, HO.out⟩
theorem _root_.Go.Proofs.Hp.Own.cback {w0 W : World} {a b : Nat × Obj} {R R' L : Hl} (h : Own w0 W (b :: (R ++ (R' ++ (a :: L))))) : Own w0 W (R' ++ (a :: b :: (R ++ L))) := by
  have h1 : Own w0 W ((b :: R) ++ (R' ++ (a :: L))) := h
  have h2 := Own.swap3 h1
  have h3 : Own w0 W (R' ++ ((b :: R) ++ ([a] ++ L))) := h2
  have h4 := Own.swapfour h3
  exact h4
set_option maxHeartbeats 8000000 in
set_option maxRecDepth 100000 in
theorem clen (w0 w : World) (L : Hl) (gc gd n c : Nat) (A : Option Addr) (hO : Own w0 w ((gc, .cells #[.slice A n c, .pointer (some ⟨gd, 0, none⟩)] 140 (0, 0)) :: L)) : Calls Try.prog 38 #[.pointer (some ⟨gc, 0, none⟩)] w fun e w' => e = .returned (.int .i64 (n : Int)) ∧ Own w0 w' ((gc, .cells #[.slice A n c, .pointer (some ⟨gd, 0, none⟩)] 140 (0, 0)) :: L) := by
  have huks := Try.underlying89
  have HO := Aside0.mk hO
  clear hO
  go_enter Try.func38, Try.ntmps38
  go_wp2_with (first | ((with_reducible refine gate_dst (N := 8) rfl ?_); refine own_load HO.out rfl (x := .tmp 7) (v := .slice A n c) rfl (by rfl) (by (repeat (first | exact .head | apply Ext.tail))) huks (by rfl) (by rfl) ?_))
  go_ret
  exact ⟨rfl, HO.out⟩
set_option maxHeartbeats 8000000 in
set_option maxRecDepth 100000 in
theorem cbytes (w0 w : World) (L R : Hl) (gc gd n c Z NN : Nat) (A : Option Addr) (v2 : Value) (B : List Int) (hR : RowOf 5 1 R v2 NN (B.map (Value.int .u8))) (hm : NN ≤ 512) (hO : Own w0 w ((gc, .cells #[.slice A n c, .pointer (some ⟨gd, 0, none⟩)] 140 (0, 0)) :: (gd, .cells #[.int .i64 (Z : Int), v2] 126 (0, 0)) :: (R ++ L))) : Calls Try.prog 39 #[.pointer (some ⟨gc, 0, none⟩)] w fun e w' => ∃ v', e = .returned v' ∧ ∃ R', RowOf 5 1 R' v' NN (B.map (Value.int .u8)) ∧ Own w0 w' (R' ++ ((gc, .cells #[.slice A n c, .pointer (some ⟨gd, 0, none⟩)] 140 (0, 0)) :: (gd, .cells #[.int .i64 (Z : Int), v2] 126 (0, 0)) :: (R ++ L))) := by
  have hup := Try.underlying24
  have HO := Aside0.mk hO
  have HR := Aside0.mk hR
  have HM := Aside0.mk hm
  clear hO hR hm
  go_enter Try.func39, Try.ntmps39
  go_wp2_with (first | ((with_reducible refine gate_dst (N := 8) rfl ?_); refine own_load HO.out rfl (x := .tmp 7) (v := .pointer (some ⟨gd, 0, none⟩)) rfl (by rfl) (by (repeat (first | exact .head | apply Ext.tail))) hup (by rfl) (by rfl) ?_) | ((with_reducible refine gate_callee (f := 18) rfl ?_); (with_reducible refine gate_dst (N := 9) rfl ?_); refine goesL_ (some 9) rfl rfl Try.func18 (by kernel_rfl) rfl #[.pointer (some ⟨gd, 0, none⟩)] rfl (by (try simp only [List.map_toArray, List.map_cons, List.map_nil]); first | done | rfl) ?_; (with_reducible refine (bytes_row w0 _ ((gc, .cells #[.slice A n c, .pointer (some ⟨gd, 0, none⟩)] 140 (0, 0)) :: L) R gd (Z : Int) v2 NN B HR.out HM.out (Own.perm HO.out (by refine (List.Perm.swap _ _ _).trans (List.Perm.cons _ ?_); exact List.perm_middle.symm))).mono ?_); rintro e wx ⟨v3, rfl, R3, hR3, hO_⟩; refine ⟨_, rfl, ?_⟩; have HR3 := Aside0.mk hR3; clear hR3; have hO_ := Own.cback hO_; clear HO; have HO := Aside0.mk hO_; clear hO_))
  go_ret
  exact ⟨_, rfl, R3, HR3.out, HO.out⟩
theorem _root_.Go.Proofs.Hp.Own.cpre {w0 W : World} {l a b : Nat × Obj} {R R' L : Hl} (h : Own w0 W (R ++ (l :: a :: b :: (R' ++ L)))) : Own w0 W (a :: b :: (l :: (R ++ (R' ++ L)))) := by
  have h1 := Own.swap3 (B := R) (R := [l, a, b]) (L := R' ++ L) h
  exact Own.swap3 (B := [l]) (R := [a, b]) (L := R ++ (R' ++ L)) h1
theorem _root_.Go.Proofs.Hp.Own.cpost {w0 W : World} {d l a b : Nat × Obj} {R L : Hl} (h : Own w0 W (d :: a :: b :: (R ++ (l :: L)))) : Own w0 W (d :: a :: b :: l :: (R ++ L)) := Own.swapfour (S := [d, a, b]) (B := R) (R := [l]) (L := L) h
theorem _root_.Go.Proofs.Hp.Own.cfin {w0 W : World} {x d l a b : Nat × Obj} {R3 RK2 RK L : Hl} (h : Own w0 W (x :: d :: a :: b :: l :: (R3 ++ (RK2 ++ (RK ++ L))))) : Own w0 W (x :: d :: (R3 ++ (l :: a :: b :: (RK ++ (RK2 ++ L))))) := by
  have h1 : Own w0 W (x :: d :: l :: a :: b :: (R3 ++ (RK2 ++ (RK ++ L)))) := Own.swapfour (S := [x, d]) (B := [a, b]) (R := [l]) h
  have h2 : Own w0 W ((x :: d :: l :: a :: b :: R3) ++ (RK2 ++ (RK ++ L))) := h1
  have h3 : Own w0 W ([x, d] ++ ([l, a, b] ++ (R3 ++ (RK ++ (RK2 ++ L))))) := Own.swapfour (S := x :: d :: l :: a :: b :: R3) (B := RK2) (R := RK) (L := L) h2
  exact Own.swapfour h3
set_option maxHeartbeats 8000000 in
set_option maxRecDepth 100000 in
theorem lcopy (w0 w : World) (L RK : Hl) (gl ga gb Z N NN : Nat) (A : Option Addr) (n c : Nat) (K : List (Int × Int)) (D : List (List Int)) (hN : LNum Z N NN) (hS : LSt Z N RK A n c K D) (hO : Own w0 w ((gl, .cells #[.slice A n c, .pointer (some ⟨ga, 0, none⟩)] 140 (0, 0)) :: (ga, .cells #[.int .i64 (Z : Int), .slice (some ⟨gb, 0, none⟩) NN NN] 126 (0, 0)) :: (gb, .cells (u8s D.flatten) 5 (0, 0)) :: (RK ++ L))) :
    Calls Try.prog 55 #[.pointer (some ⟨gl, 0, none⟩)] w fun e w' => ∃ gc, e = .returned (.pointer (some ⟨gc, 0, none⟩)) ∧ ∃ gd A2 c2 v2 R3 RK2, RowOf 5 1 R3 v2 NN (D.flatten.map (Value.int .u8)) ∧ Own w0 w' ((gc, .cells #[.slice A2 n c2, .pointer (some ⟨gd, 0, none⟩)] 140 (0, 0)) :: (gd, .cells #[.int .i64 (Z : Int), v2] 126 (0, 0)) :: (R3 ++ ((gl, .cells #[.slice A n c, .pointer (some ⟨ga, 0, none⟩)] 140 (0, 0)) :: (ga, .cells #[.int .i64 (Z : Int), .slice (some ⟨gb, 0, none⟩) NN NN] 126 (0, 0)) :: (gb, .cells (u8s D.flatten) 5 (0, 0)) :: (RK ++ (RK2 ++ L))))) := by
  have hui := Try.underlying3
  have hul := Try.underlying32
  have huk := Try.underlying54
  have huks := Try.underlying89
  have hup := Try.underlying24
  have HO : Aside0 (Own w0 w ((gl, .cells #[.slice A n c, .pointer (some ⟨ga, 0, none⟩)] 140 (0, 0)) :: (ga, .cells #[.int .i64 (Z : Int), .slice (some ⟨gb, 0, none⟩) NN NN] 126 (0, 0)) :: (gb, .cells (u8s D.flatten) 5 (0, 0)) :: (RK ++ L))) := ⟨hO⟩
  have HN := Aside0.mk hN
  have HS := Aside0.mk hS
  clear hO hN hS
  obtain ⟨Ks, hKs⟩ : ∃ Ks : List (Int × Int), Ks = K := ⟨_, rfl⟩
  subst hKs
  go_enter Try.func55, Try.ntmps55
  go_wp2
  refine start_ (n := 13) (S := fun W => Own w0 W ((gl, .cells #[.slice A n c, .pointer (some ⟨ga, 0, none⟩)] 140 (0, 0)) :: [])) (ds := []) #[false, false, false, false, false, false, false, false, false, false, false, false, false] (by kernel_rfl) rfl rfl (Own.drew (HO.out.picks (.cons (by (repeat (first | exact .head | apply Ext.tail))) (.nil)))) (fun hHeld => ?_)
  have HO_ := Aside0.mk HO.out.drew
  clear HO
  have HO := HO_
  clear HO_
  generalize World.drew _ = wr at HO hHeld ⊢
  refine Hp.pu_ 0 5 (Hp.up 13 1) ?_
  refine Hp.pu_ 1 6 (Hp.up 13 2) ?_
  refine Hp.pu_ 2 7 (Hp.up 13 3) ?_
  refine take_ (i := 3) (N := some 8) (v := .slice A n c) (a' := ?_) (Hp.up 13 4) rfl rfl (by kernel_rfl) (fun _ _ _ h => h) (own_yield1 (by rfl) (x := .tmp 7) rfl (by rfl) (.head) Try.underlying89 (by rfl) (by rfl)) hHeld ?_ ?_
  rotate_left
  · simp only [Act.put, List.setIfInBounds_toArray, List.set_cons_zero, List.set_cons_succ, i64_w, i32_w]
    rfl
  refine Hp.pu_ 5 10 #[true, true, true, true, false, true, false, false, false, false, false, false, false] ?_
  refine Hp.pu_ 6 11 #[true, true, true, true, false, true, true, false, false, false, false, false, false] ?_
  refine Hp.pu_ 7 12 #[true, true, true, true, false, true, true, true, false, false, false, false, false] ?_
  refine take_ (i := 8) (N := some 13) (v := .pointer (some ⟨ga, 0, none⟩)) (a' := ?_) #[true, true, true, true, false, true, true, true, true, false, false, false, false] rfl rfl (by kernel_rfl) (fun _ _ _ h => h) (own_yield1 (by rfl) (x := .tmp 12) rfl (by rfl) (.head) Try.underlying24 (by rfl) (by rfl)) hHeld ?_ ?_
  rotate_left
  · simp only [Act.put, List.setIfInBounds_toArray, List.set_cons_zero, List.set_cons_succ, i64_w, i32_w]
    rfl
  refine one_ (i := 4) (N := some 9) (Hp.up 13 9) rfl rfl (by kernel_rfl) (by decide) (fun K hK => ?_)
  refine goes_ Try.func88 (by kernel_rfl) rfl #[.slice A n c] (by rfl) rfl rfl (by (try simp only [List.map_toArray, List.map_cons, List.map_nil]); first | done | rfl) ?_
  refine (clone_key w0 _ ((gl, .cells #[.slice A n c, .pointer (some ⟨ga, 0, none⟩)] 140 (0, 0)) :: (ga, .cells #[.int .i64 (Z : Int), .slice (some ⟨gb, 0, none⟩) NN NN] 126 (0, 0)) :: (gb, .cells (u8s D.flatten) 5 (0, 0)) :: L) RK (.slice A n c) n (kcells Ks) HS.out.row (kcells_one _) (by have := HS.out.nle; have := HN.out.hn; omega) (Own.swap3 (B := [(gl, .cells #[.slice A n c, .pointer (some ⟨ga, 0, none⟩)] 140 (0, 0)), (ga, .cells #[.int .i64 (Z : Int), .slice (some ⟨gb, 0, none⟩) NN NN] 126 (0, 0)), (gb, .cells (u8s D.flatten) 5 (0, 0))]) (R := RK) (L := L) HO.out)).mono ?_
  rintro e wx ⟨v2, rfl, RK2, hR2, hO_⟩
  refine ⟨_, rfl, ?_⟩
  obtain ⟨A2, c2, rfl⟩ := RowOf.shape hR2
  have HR2 := Aside0.mk hR2
  clear hR2
  have hO_ := Own.swapfour (S := RK2) (B := RK) (R := [(gl, .cells #[.slice A n c, .pointer (some ⟨ga, 0, none⟩)] 140 (0, 0)), (ga, .cells #[.int .i64 (Z : Int), .slice (some ⟨gb, 0, none⟩) NN NN] 126 (0, 0)), (gb, .cells (u8s D.flatten) 5 (0, 0))]) (L := L) hO_
  clear HO; have HO := Aside0.mk hO_; clear hO_
  refine hK.out _ _ (HO.out.picks (.cons (by exact Ext.app .head RK2) .nil)) (fun hHeld => ?_)
  clear hK K
  refine norm_ (a' := ?_) ?_ ?_
  rotate_left
  · show Act.put _ (some 9) _ = _
    simp only [Act.put, List.setIfInBounds_toArray, List.set_cons_zero, List.set_cons_succ, i64_w, i32_w]
    rfl
  refine one_ (i := 9) (N := some 14) (Hp.up 13 10) rfl rfl (by kernel_rfl) (by decide) (fun K hK => ?_)
  refine goes_ Try.func17 (by kernel_rfl) rfl #[.pointer (some ⟨ga, 0, none⟩)] (by rfl) rfl rfl (by (try simp only [List.map_toArray, List.map_cons, List.map_nil]); first | done | rfl) ?_
  have hQ_ : Own w0 _ ((ga, .cells #[.int .i64 (Z : Int), .slice (some ⟨gb, 0, none⟩) NN NN] 126 (0, 0)) :: (gb, .cells (u8s D.flatten) 5 (0, 0)) :: ((gl, .cells #[.slice A n c, .pointer (some ⟨ga, 0, none⟩)] 140 (0, 0)) :: (RK2 ++ (RK ++ L)))) := Own.cpre HO.out
  refine (copy_calls w0 _ _ ga gb (Z : Int) NN D.flatten (HS.out.fl HN.out) HN.out.hm hQ_).mono ?_
  rintro e wx ⟨gd, rfl, A3, c3, R3, hR3, hO_⟩
  refine ⟨_, rfl, ?_⟩
  have HR3 := Aside0.mk hR3
  clear hR3 hQ_
  have hO_ : Own w0 wx ((gd, .cells #[.int .i64 (Z : Int), .slice A3 NN c3] 126 (0, 0)) :: (ga, .cells #[.int .i64 (Z : Int), .slice (some ⟨gb, 0, none⟩) NN NN] 126 (0, 0)) :: (gb, .cells (u8s D.flatten) 5 (0, 0)) :: (gl, .cells #[.slice A n c, .pointer (some ⟨ga, 0, none⟩)] 140 (0, 0)) :: (R3 ++ (RK2 ++ (RK ++ L)))) := Own.cpost hO_
  clear HO; have HO := Aside0.mk hO_; clear hO_
  refine hK.out _ _ (HO.out.picks (.cons (by exact .tail (.tail (.tail .head))) .nil)) (fun hHeld => ?_)
  clear hK K
  refine norm_ (a' := ?_) ?_ ?_
  rotate_left
  · show Act.put _ (some 14) _ = _
    simp only [Act.put, List.setIfInBounds_toArray, List.set_cons_zero, List.set_cons_succ, i64_w, i32_w]
    rfl
  refine Hp.pu_ 10 15 (Hp.up 13 11) ?_
  refine one_ (i := 11) (N := some 16) (Hp.up 13 12) rfl rfl (by kernel_rfl) (by decide) (fun K hK => ?_)
  refine own_box_k HO.out (by rfl) (N := 16) rfl (cs := #[.slice A2 n c2, .pointer (some ⟨gd, 0, none⟩)]) (t := 140) (by first | (go_simp; done) | (go_simp; rfl) | kernel_rfl) ?_
  intro g16 w16 hO_
  clear HO; have HO := Aside0.mk hO_; clear hO_
  refine hK.out _ _ (HO.out.picks (.cons (by exact .tail (.tail (.tail (.tail .head)))) .nil)) (fun hHeld => ?_)
  clear hK K
  refine norm_ (a' := ?_) ?_ ?_
  rotate_left
  · show Act.put _ (some 16) _ = _
    simp only [Act.put, List.setIfInBounds_toArray, List.set_cons_zero, List.set_cons_succ, i64_w, i32_w]
    rfl
  refine Hp.pu_ 12 2 (Hp.up 13 13) ?_
  refine done_ (by kernel_rfl) ?_
  clear hHeld
  go_wp2
  go_ret
  exact ⟨_, rfl, gd, A2, c2, _, R3, RK2, HR3.out, Own.cfin HO.out⟩
theorem _root_.Go.Proofs.Hp.Own.rep {w0 W : World} {L L' : Hl} (h : Own w0 W L) (J : Hl) (p : L.Perm (J ++ L')) : Own w0 W L' := (h.perm p).tailR
theorem _root_.Go.Proofs.Hp.Own.back12 {w0 W : World} {x a b : Nat × Obj} {R X L : Hl} (h : Own w0 W (x :: a :: b :: (R ++ (X ++ L)))) : Own w0 W (a :: b :: (R ++ (X ++ (x :: L)))) := h.rep [] (by classical exact List.perm_iff_count.2 (fun a => by simp only [List.count_append, List.count_cons, List.count_nil, List.append_assoc, List.cons_append, List.nil_append]; ac_rfl))
theorem _root_.Go.Proofs.Hp.Own.front12 {w0 W : World} {x a b : Nat × Obj} {R X L : Hl} (h : Own w0 W (a :: b :: (R ++ (X ++ (x :: L))))) : Own w0 W (x :: a :: b :: (R ++ (X ++ L))) := h.rep [] (by classical exact List.perm_iff_count.2 (fun a => by simp only [List.count_append, List.count_cons, List.count_nil, List.append_assoc, List.cons_append, List.nil_append]; ac_rfl))
theorem blks_set : ∀ (G : List Nat) (D : List (List Int)) (i g : Nat) (d : List Int), G.length = D.length → i < D.length → blks (G.set i g) (D.set i d) = blks (G.take i) (D.take i) ++ (g, .cells (u8s d) 5 (0, 0)) :: blks (G.drop (i + 1)) (D.drop (i + 1))
  | [], [], _, _, _, _, h => absurd h (Nat.not_lt_zero _)
  | [], _ :: _, _, _, _, h, _ => by cases h
  | _ :: _, [], _, _, _, h, _ => by cases h
  | a :: G, b :: D, 0, g, d, _, _ => by simp [blks]
  | a :: G, b :: D, i + 1, g, d, h, hi => by
    have ih := blks_set G D i g d (by simpa using h) (by simpa using hi)
    simp only [List.set_cons_succ, blks, List.take_succ_cons, List.drop_succ_cons, List.cons_append, ih]
/-- The slots in the open at one of them. -/
theorem RefA.open {X : Hl} {A : Option Addr} {c Z : Nat} {D : List (List Int)} (h : RefA X A c Z D) (i : Nat) (hi : i < D.length) :
    ∃ gs cs P Q g, A = some ⟨gs, 0, none⟩ ∧ X = (gs, .cells cs 32 (0, 0)) :: (P ++ (g, .cells (u8s D[i]) 5 (0, 0)) :: Q) ∧ i < cs.size ∧
      ∀ g' d', d'.length = Z → RefA ((gs, .cells (cs.setIfInBounds i (slv Z g')) 32 (0, 0)) :: (P ++ (g', .cells (u8s d') 5 (0, 0)) :: Q)) A c Z (D.set i d') := by
  obtain ⟨⟨G, RS, rfl, hR, hG⟩, hl⟩ := h
  have hgi : i < G.length := by omega
  obtain ⟨gs, cs, rfl, rfl, h1, h2, h3, h4, h5⟩ := RowOf.block hR (by omega)
  have hD : D.set i D[i] = D := by simp
  have hGs : G.set i G[i] = G := by simp
  have e1 := blks_set G D i G[i] D[i] hG hi
  rw [hD, hGs] at e1
  refine ⟨gs, cs, blks (G.take i) (D.take i), blks (G.drop (i + 1)) (D.drop (i + 1)), G[i], rfl, by rw [e1]; rfl, by omega, fun g' d' hd' => ⟨⟨G.set i g', [(gs, .cells (cs.setIfInBounds i (slv Z g')) 32 (0, 0))], by rw [blks_set G D i g' d' hG hi]; rfl, ?_, by simpa using hG⟩, ?_⟩⟩
  · rw [List.length_set]
    refine ⟨by simp [hG], .inr ⟨gs, c, _, rfl, rfl, h3, h5, by rw [Array.size_setIfInBounds]; exact h2, ?_⟩⟩
    rw [Array.toList_setIfInBounds, List.take_set, h4, List.map_set]
  · intro d hd
    rcases List.mem_or_eq_of_mem_set hd with hd | rfl
    · exact hl d hd
    · exact hd'

set_option maxHeartbeats 8000000 in
set_option maxRecDepth 100000 in
theorem rget_has (w0 w : World) (L RK X : Hl) (gw gr Z N : Nat) (A AS : Option Addr) (n c cS : Nat) (K : List (Int × Int)) (D : List (List Int)) (hS : RSt12 Z N RK A n c X AS cS K D) (x y : Int) (b : Bool) (k : Nat) (hk : kfind (x, y) K 0 = (k : Int)) (hO : Own w0 w ((gw, .cells #[.slice A n c, .pointer (some ⟨gr, 0, none⟩)] 91 (0, 0)) :: (gr, .cells #[.int .i64 (Z : Int), .slice AS N cS] 129 (0, 0)) :: (RK ++ (X ++ L)))) : Calls Try.prog 57 #[.pointer (some ⟨gw, 0, none⟩), .agg #[.int .i64 x, .int .i64 y], .bool b] w fun e w' => e = .returned (.tuple #[.int .i64 (k : Int), .int .i64 0]) ∧ Own w0 w' ((gw, .cells #[.slice A n c, .pointer (some ⟨gr, 0, none⟩)] 91 (0, 0)) :: (gr, .cells #[.int .i64 (Z : Int), .slice AS N cS] 129 (0, 0)) :: (RK ++ (X ++ L))) := by
  have HF := Aside0.mk hk
  have c1 : decide (0 ≤ (k : Int)) = true := decide_eq_true (by omega)
  clear hk
  have hui := Try.underlying3
  have hul := Try.underlying32
  have huk := Try.underlying54
  have huks := Try.underlying89
  have hull := Try.underlying127
  have hup := Try.underlying29
  have HO : Aside0 (Own w0 w ((gw, .cells #[.slice A n c, .pointer (some ⟨gr, 0, none⟩)] 91 (0, 0)) :: (gr, .cells #[.int .i64 (Z : Int), .slice AS N cS] 129 (0, 0)) :: (RK ++ (X ++ L)))) := ⟨hO⟩
  have HS := Aside0.mk hS
  clear hO hS
  go_enter Try.func57, Try.ntmps57
  go_wp2_with (first | ((with_reducible refine gate_dst (N := 4) rfl ?_); refine own_box HO.out ?hg (N := 4) ?hd (cs := #[.int .i64 x, .int .i64 y]) (t := 54) ?hr ?_; (case hd => rfl); (case hg => rfl); (case hr => first | (go_simp; done) | (go_simp; rfl) | kernel_rfl); intro g4 w4 hO_; clear HO; have HO := Aside0.mk hO_; clear hO_) | ((with_reducible refine gate_dst (N := 10) rfl ?_); refine own_wload HO.out rfl (x := .tmp 4) rfl (by rfl) (by (repeat (first | exact .head | apply Ext.tail))) huk (by rfl) (by kernel_rfl) ?_) | ((with_reducible refine gate_callee (f := 89) rfl ?_); (with_reducible refine gate_dst (N := 11) rfl ?_); refine goesL_ (some 11) rfl rfl Try.func89 (by kernel_rfl) rfl #[.pointer (some ⟨gw, 0, none⟩), .agg #[.int .i64 x, .int .i64 y]] rfl (by (try simp only [List.map_toArray, List.map_cons, List.map_nil]); first | done | rfl) ?_; (with_reducible refine (rfind12 w0 _ ((g4, .cells #[.int .i64 x, .int .i64 y] 54 (0, 0)) :: L) RK X gw gr Z N A AS n c cS K D HS.out x y _ HF.out HO.out.back12).mono ?_); rintro e wx ⟨rfl, hO_⟩; refine ⟨_, rfl, ?_⟩; have hO_ := hO_.front12; clear HO; have HO := Aside0.mk hO_; clear hO_))
  refine bodyPost_ret (results_tmp2 rfl _ _ _) rfl ?_
  exact ⟨rfl, HO.out.drop⟩
set_option maxHeartbeats 8000000 in
set_option maxRecDepth 100000 in
theorem rget_not (w0 w : World) (L RK X : Hl) (gw gr Z N : Nat) (A AS : Option Addr) (n c cS : Nat) (K : List (Int × Int)) (D : List (List Int)) (hS : RSt12 Z N RK A n c X AS cS K D) (x y : Int) (hk : kfind (x, y) K 0 = -1) (hO : Own w0 w ((gw, .cells #[.slice A n c, .pointer (some ⟨gr, 0, none⟩)] 91 (0, 0)) :: (gr, .cells #[.int .i64 (Z : Int), .slice AS N cS] 129 (0, 0)) :: (RK ++ (X ++ L)))) : Calls Try.prog 57 #[.pointer (some ⟨gw, 0, none⟩), .agg #[.int .i64 x, .int .i64 y], .bool false] w fun e w' => e = .returned (.tuple #[.int .i64 0, .int .i64 2]) ∧ Own w0 w' ((gw, .cells #[.slice A n c, .pointer (some ⟨gr, 0, none⟩)] 91 (0, 0)) :: (gr, .cells #[.int .i64 (Z : Int), .slice AS N cS] 129 (0, 0)) :: (RK ++ (X ++ L))) := by
  have HF := Aside0.mk hk
  clear hk
  have hui := Try.underlying3
  have hul := Try.underlying32
  have huk := Try.underlying54
  have huks := Try.underlying89
  have hull := Try.underlying127
  have hup := Try.underlying29
  have HO : Aside0 (Own w0 w ((gw, .cells #[.slice A n c, .pointer (some ⟨gr, 0, none⟩)] 91 (0, 0)) :: (gr, .cells #[.int .i64 (Z : Int), .slice AS N cS] 129 (0, 0)) :: (RK ++ (X ++ L)))) := ⟨hO⟩
  have HS := Aside0.mk hS
  clear hO hS
  go_enter Try.func57, Try.ntmps57
  go_wp2_with (first | ((with_reducible refine gate_dst (N := 4) rfl ?_); refine own_box HO.out ?hg (N := 4) ?hd (cs := #[.int .i64 x, .int .i64 y]) (t := 54) ?hr ?_; (case hd => rfl); (case hg => rfl); (case hr => first | (go_simp; done) | (go_simp; rfl) | kernel_rfl); intro g4 w4 hO_; clear HO; have HO := Aside0.mk hO_; clear hO_) | ((with_reducible refine gate_dst (N := 10) rfl ?_); refine own_wload HO.out rfl (x := .tmp 4) rfl (by rfl) (by (repeat (first | exact .head | apply Ext.tail))) huk (by rfl) (by kernel_rfl) ?_) | ((with_reducible refine gate_callee (f := 89) rfl ?_); (with_reducible refine gate_dst (N := 11) rfl ?_); refine goesL_ (some 11) rfl rfl Try.func89 (by kernel_rfl) rfl #[.pointer (some ⟨gw, 0, none⟩), .agg #[.int .i64 x, .int .i64 y]] rfl (by (try simp only [List.map_toArray, List.map_cons, List.map_nil]); first | done | rfl) ?_; (with_reducible refine (rfind12 w0 _ ((g4, .cells #[.int .i64 x, .int .i64 y] 54 (0, 0)) :: L) RK X gw gr Z N A AS n c cS K D HS.out x y _ HF.out HO.out.back12).mono ?_); rintro e wx ⟨rfl, hO_⟩; refine ⟨_, rfl, ?_⟩; have hO_ := hO_.front12; clear HO; have HO := Aside0.mk hO_; clear hO_))
  refine bodyPost_ret (results_tmp2 rfl _ _ _) rfl ?_
  exact ⟨rfl, HO.out.drop⟩
set_option maxHeartbeats 8000000 in
set_option maxRecDepth 100000 in
theorem rget_full (w0 w : World) (L RK X : Hl) (gw gr Z N : Nat) (A AS : Option Addr) (n c cS : Nat) (K : List (Int × Int)) (D : List (List Int)) (hS : RSt12 Z N RK A n c X AS cS K D) (x y : Int) (hk : kfind (x, y) K 0 = -1) (hf : n = N) (hO : Own w0 w ((gw, .cells #[.slice A n c, .pointer (some ⟨gr, 0, none⟩)] 91 (0, 0)) :: (gr, .cells #[.int .i64 (Z : Int), .slice AS N cS] 129 (0, 0)) :: (RK ++ (X ++ L)))) : Calls Try.prog 57 #[.pointer (some ⟨gw, 0, none⟩), .agg #[.int .i64 x, .int .i64 y], .bool true] w fun e w' => e = .returned (.tuple #[.int .i64 0, .int .i64 28]) ∧ Own w0 w' ((gw, .cells #[.slice A n c, .pointer (some ⟨gr, 0, none⟩)] 91 (0, 0)) :: (gr, .cells #[.int .i64 (Z : Int), .slice AS N cS] 129 (0, 0)) :: (RK ++ (X ++ L))) := by
  have HF := Aside0.mk hk
  have e1 : ((n : Int) == (N : Int)) = true := by simp [hf]
  have e1n : (n == N) = true := by simp [hf]
  have e1p := eq_true hf
  have e1i : ((n : Int) = (N : Int)) = True := by simp [hf]
  clear hk hf
  have hui := Try.underlying3
  have hul := Try.underlying32
  have huk := Try.underlying54
  have huks := Try.underlying89
  have hull := Try.underlying127
  have hup := Try.underlying29
  have HO : Aside0 (Own w0 w ((gw, .cells #[.slice A n c, .pointer (some ⟨gr, 0, none⟩)] 91 (0, 0)) :: (gr, .cells #[.int .i64 (Z : Int), .slice AS N cS] 129 (0, 0)) :: (RK ++ (X ++ L)))) := ⟨hO⟩
  have HS := Aside0.mk hS
  clear hO hS
  go_enter Try.func57, Try.ntmps57
  go_wp2_with (first | ((with_reducible refine gate_dst (N := 4) rfl ?_); refine own_box HO.out ?hg (N := 4) ?hd (cs := #[.int .i64 x, .int .i64 y]) (t := 54) ?hr ?_; (case hd => rfl); (case hg => rfl); (case hr => first | (go_simp; done) | (go_simp; rfl) | kernel_rfl); intro g4 w4 hO_; clear HO; have HO := Aside0.mk hO_; clear hO_) | ((with_reducible refine gate_dst (N := 10) rfl ?_); refine own_wload HO.out rfl (x := .tmp 4) rfl (by rfl) (by (repeat (first | exact .head | apply Ext.tail))) huk (by rfl) (by kernel_rfl) ?_) | ((with_reducible refine gate_callee (f := 89) rfl ?_); (with_reducible refine gate_dst (N := 11) rfl ?_); refine goesL_ (some 11) rfl rfl Try.func89 (by kernel_rfl) rfl #[.pointer (some ⟨gw, 0, none⟩), .agg #[.int .i64 x, .int .i64 y]] rfl (by (try simp only [List.map_toArray, List.map_cons, List.map_nil]); first | done | rfl) ?_; (with_reducible refine (rfind12 w0 _ ((g4, .cells #[.int .i64 x, .int .i64 y] 54 (0, 0)) :: L) RK X gw gr Z N A AS n c cS K D HS.out x y _ HF.out HO.out.back12).mono ?_); rintro e wx ⟨rfl, hO_⟩; refine ⟨_, rfl, ?_⟩; have hO_ := hO_.front12; clear HO; have HO := Aside0.mk hO_; clear hO_))
  refine start_ (n := 14) (S := fun W => Own w0 W ((gw, .cells #[.slice A n c, .pointer (some ⟨gr, 0, none⟩)] 91 (0, 0)) :: (gr, .cells #[.int .i64 (Z : Int), .slice AS N cS] 129 (0, 0)) :: [])) (ds := []) #[false, false, false, false, false, false, false, false, false, false, false, false, false, false] (by kernel_rfl) rfl rfl (Own.drew (HO.out.picks (.cons (by (repeat (first | exact .head | apply Ext.tail))) (.cons (by (repeat (first | exact .head | apply Ext.tail))) (.nil))))) (fun hHeld => ?_)
  have HO_ := Aside0.mk HO.out.drew
  clear HO
  have HO := HO_
  clear HO_
  generalize World.drew _ = wr at HO hHeld ⊢
  refine Hp.pu_ 0 17 (Hp.up 14 1) ?_
  refine Hp.pu_ 1 18 (Hp.up 14 2) ?_
  refine Hp.pu_ 2 19 (Hp.up 14 3) ?_
  refine take_ (i := 3) (N := some 20) (v := .slice A n c) (a' := ?_) (Hp.up 14 4) rfl rfl (by kernel_rfl) (fun _ _ _ h => h) (own_yield1 (by rfl) (x := .tmp 19) rfl (by rfl) (.head) Try.underlying89 (by rfl) (by rfl)) hHeld ?_ ?_
  rotate_left
  · simp only [Act.put, List.setIfInBounds_toArray, List.set_cons_zero, List.set_cons_succ, i64_w, i32_w]
    rfl
  refine Hp.pu_ 4 21 (Hp.up 14 5) ?_
  refine Hp.pu_ 5 22 (Hp.up 14 6) ?_
  refine Hp.pu_ 6 23 (Hp.up 14 7) ?_
  refine Hp.pu_ 7 24 (Hp.up 14 8) ?_
  refine take_ (i := 8) (N := some 25) (v := .pointer (some ⟨gr, 0, none⟩)) (a' := ?_) (Hp.up 14 9) rfl rfl (by kernel_rfl) (fun _ _ _ h => h) (own_yield1 (by rfl) (x := .tmp 24) rfl (by rfl) (.head) Try.underlying29 (by rfl) (by rfl)) hHeld ?_ ?_
  rotate_left
  · simp only [Act.put, List.setIfInBounds_toArray, List.set_cons_zero, List.set_cons_succ, i64_w, i32_w]
    rfl
  refine Hp.pu_ 9 26 (Hp.up 14 10) ?_
  refine Hp.pu_ 10 27 (Hp.up 14 11) ?_
  refine take_ (i := 11) (N := some 28) (v := .slice AS N cS) (a' := ?_) (Hp.up 14 12) rfl rfl (by kernel_rfl) (fun _ _ _ h => h) (own_yield1 (by rfl) (x := .tmp 27) rfl (by rfl) (.tail (.head)) Try.underlying127 (by rfl) (by rfl)) hHeld ?_ ?_
  rotate_left
  · simp only [Act.put, List.setIfInBounds_toArray, List.set_cons_zero, List.set_cons_succ, i64_w, i32_w]
    rfl
  refine Hp.pu_ 12 29 (Hp.up 14 13) ?_
  refine Hp.pu_ 13 30 (Hp.up 14 14) ?_
  refine done_ (by kernel_rfl) ?_
  clear hHeld
  go_wp2
  refine bodyPost_ret (results_tmp2 rfl _ _ _) rfl ?_
  exact ⟨rfl, HO.out.drop⟩
set_option maxHeartbeats 8000000 in
set_option maxRecDepth 100000 in
theorem rget_new (w0 w : World) (L RK X : Hl) (gw gr Z N : Nat) (A AS : Option Addr) (n c cS : Nat) (K : List (Int × Int)) (D : List (List Int)) (hS : RSt12 Z N RK A n c X AS cS K D) (x y : Int) (hk : kfind (x, y) K 0 = -1) (hf : n < N) (hO : Own w0 w ((gw, .cells #[.slice A n c, .pointer (some ⟨gr, 0, none⟩)] 91 (0, 0)) :: (gr, .cells #[.int .i64 (Z : Int), .slice AS N cS] 129 (0, 0)) :: (RK ++ (X ++ L)))) : Calls Try.prog 57 #[.pointer (some ⟨gw, 0, none⟩), .agg #[.int .i64 x, .int .i64 y], .bool true] w fun e w' => e = .returned (.tuple #[.int .i64 (n : Int), .int .i64 0]) ∧ ∃ R2 A2 n2 c2 X2 K2 D2, n2 = n + 1 ∧ K2 = K ++ [(x, y)] ∧ D2 = D.set n (List.replicate Z 0) ∧ RSt12 Z N R2 A2 n2 c2 X2 AS cS K2 D2 ∧ Own w0 w' ((gw, .cells #[.slice A2 n2 c2, .pointer (some ⟨gr, 0, none⟩)] 91 (0, 0)) :: (gr, .cells #[.int .i64 (Z : Int), .slice AS N cS] 129 (0, 0)) :: (R2 ++ (X2 ++ L))) := by
  have HF := Aside0.mk hk
  have HFN := Aside0.mk hf
  have e1 : ((n : Int) == (N : Int)) = false := beq_eq_false_iff_ne.mpr (by omega)
  have e1n : (n == N) = false := beq_eq_false_iff_ne.mpr (by omega)
  have e1p := eq_false (show ¬ n = N by omega)
  have e1i : ((n : Int) = (N : Int)) = False := eq_false (by omega)
  have p1 := eq_true (show 0 ≤ (n : Int) by omega)
  have q1 := eq_true (show (n : Int) < (N : Int) by omega)
  have q1n := eq_true hf
  clear hk hf
  have hnD : n < D.length := by rw [hS.dl]; exact HFN.out
  obtain ⟨gs, cs, P, Q, g, hAS, hX, hcs, hput⟩ := RefA.open hS.refA n hnD
  subst hAS
  subst hX
  have HCS := Aside0.mk hcs
  have HPUT := Aside0.mk hput
  clear hcs hput
  have hui := Try.underlying3
  have hul := Try.underlying32
  have huk := Try.underlying54
  have huks := Try.underlying89
  have hull := Try.underlying127
  have hup := Try.underlying29
  have HO : Aside0 (Own w0 w ((gw, .cells #[.slice A n c, .pointer (some ⟨gr, 0, none⟩)] 91 (0, 0)) :: (gr, .cells #[.int .i64 (Z : Int), .slice (some ⟨gs, 0, none⟩) N cS] 129 (0, 0)) :: (RK ++ (((gs, .cells cs 32 (0, 0)) :: (P ++ (g, .cells (u8s D[n]) 5 (0, 0)) :: Q)) ++ L)))) := ⟨hO⟩
  have HS := Aside0.mk hS
  clear hO hS
  go_enter Try.func57, Try.ntmps57
  go_wp2_with (first | ((with_reducible refine gate_dst (N := 4) rfl ?_); refine own_box HO.out ?hg (N := 4) ?hd (cs := #[.int .i64 x, .int .i64 y]) (t := 54) ?hr ?_; (case hd => rfl); (case hg => rfl); (case hr => first | (go_simp; done) | (go_simp; rfl) | kernel_rfl); intro g4 w4 hO_; clear HO; have HO := Aside0.mk hO_; clear hO_) | ((with_reducible refine gate_dst (N := 10) rfl ?_); refine own_wload HO.out rfl (x := .tmp 4) rfl (by rfl) (by (repeat (first | exact .head | apply Ext.tail))) huk (by rfl) (by kernel_rfl) ?_) | ((with_reducible refine gate_callee (f := 89) rfl ?_); (with_reducible refine gate_dst (N := 11) rfl ?_); refine goesL_ (some 11) rfl rfl Try.func89 (by kernel_rfl) rfl #[.pointer (some ⟨gw, 0, none⟩), .agg #[.int .i64 x, .int .i64 y]] rfl (by (try simp only [List.map_toArray, List.map_cons, List.map_nil]); first | done | rfl) ?_; (with_reducible refine (rfind12 w0 _ ((g4, .cells #[.int .i64 x, .int .i64 y] 54 (0, 0)) :: L) RK ((gs, .cells cs 32 (0, 0)) :: (P ++ (g, .cells (u8s D[n]) 5 (0, 0)) :: Q)) gw gr Z N A (some ⟨gs, 0, none⟩) n c cS K D HS.out x y _ HF.out HO.out.back12).mono ?_); rintro e wx ⟨rfl, hO_⟩; refine ⟨_, rfl, ?_⟩; have hO_ := hO_.front12; clear HO; have HO := Aside0.mk hO_; clear hO_))
  refine start_ (n := 14) (S := fun W => Own w0 W ((gw, .cells #[.slice A n c, .pointer (some ⟨gr, 0, none⟩)] 91 (0, 0)) :: (gr, .cells #[.int .i64 (Z : Int), .slice (some ⟨gs, 0, none⟩) N cS] 129 (0, 0)) :: [])) (ds := []) #[false, false, false, false, false, false, false, false, false, false, false, false, false, false] (by kernel_rfl) rfl rfl (Own.drew (HO.out.picks (.cons (by (repeat (first | exact .head | apply Ext.tail))) (.cons (by (repeat (first | exact .head | apply Ext.tail))) (.nil))))) (fun hHeld => ?_)
  have HO_ := Aside0.mk HO.out.drew
  clear HO
  have HO := HO_
  clear HO_
  generalize World.drew _ = wr at HO hHeld ⊢
  refine Hp.pu_ 0 17 (Hp.up 14 1) ?_
  refine Hp.pu_ 1 18 (Hp.up 14 2) ?_
  refine Hp.pu_ 2 19 (Hp.up 14 3) ?_
  refine take_ (i := 3) (N := some 20) (v := .slice A n c) (a' := ?_) (Hp.up 14 4) rfl rfl (by kernel_rfl) (fun _ _ _ h => h) (own_yield1 (by rfl) (x := .tmp 19) rfl (by rfl) (.head) Try.underlying89 (by rfl) (by rfl)) hHeld ?_ ?_
  rotate_left
  · simp only [Act.put, List.setIfInBounds_toArray, List.set_cons_zero, List.set_cons_succ, i64_w, i32_w]
    rfl
  refine Hp.pu_ 4 21 (Hp.up 14 5) ?_
  refine Hp.pu_ 5 22 (Hp.up 14 6) ?_
  refine Hp.pu_ 6 23 (Hp.up 14 7) ?_
  refine Hp.pu_ 7 24 (Hp.up 14 8) ?_
  refine take_ (i := 8) (N := some 25) (v := .pointer (some ⟨gr, 0, none⟩)) (a' := ?_) (Hp.up 14 9) rfl rfl (by kernel_rfl) (fun _ _ _ h => h) (own_yield1 (by rfl) (x := .tmp 24) rfl (by rfl) (.head) Try.underlying29 (by rfl) (by rfl)) hHeld ?_ ?_
  rotate_left
  · simp only [Act.put, List.setIfInBounds_toArray, List.set_cons_zero, List.set_cons_succ, i64_w, i32_w]
    rfl
  refine Hp.pu_ 9 26 (Hp.up 14 10) ?_
  refine Hp.pu_ 10 27 (Hp.up 14 11) ?_
  refine take_ (i := 11) (N := some 28) (v := .slice (some ⟨gs, 0, none⟩) N cS) (a' := ?_) (Hp.up 14 12) rfl rfl (by kernel_rfl) (fun _ _ _ h => h) (own_yield1 (by rfl) (x := .tmp 27) rfl (by rfl) (.tail (.head)) Try.underlying127 (by rfl) (by rfl)) hHeld ?_ ?_
  rotate_left
  · simp only [Act.put, List.setIfInBounds_toArray, List.set_cons_zero, List.set_cons_succ, i64_w, i32_w]
    rfl
  refine Hp.pu_ 12 29 (Hp.up 14 13) ?_
  refine Hp.pu_ 13 30 (Hp.up 14 14) ?_
  refine done_ (by kernel_rfl) ?_
  clear hHeld
  go_wp2_with (first | ((with_reducible refine gate_dst (N := 34) rfl ?_); refine own_load HO.out rfl (x := .tmp 33) (v := .slice A n c) rfl (by rfl) (by (repeat (first | exact .head | apply Ext.tail))) huks (by rfl) (by rfl) ?_))
  have hO_ : Own w0 _ ((gw, .cells #[.slice A n c, .pointer (some ⟨gr, 0, none⟩)] 91 (0, 0)) :: (gr, .cells #[.int .i64 (Z : Int), .slice (some ⟨gs, 0, none⟩) N cS] 129 (0, 0)) :: (g4, .cells #[.int .i64 x, .int .i64 y] 54 (0, 0)) :: (gs, .cells cs 32 (0, 0)) :: (RK ++ ((P ++ (g, .cells (u8s D[n]) 5 (0, 0)) :: Q) ++ L))) := HO.out.rep [] (by classical exact List.perm_iff_count.2 (fun a => by simp only [List.count_append, List.count_cons, List.count_nil, List.append_assoc, List.cons_append, List.nil_append]; ac_rfl))
  clear HO; have HO := Aside0.mk hO_; clear hO_
  try go_wp2
  refine start_ (n := 18) (S := fun W => Own w0 W ((gw, .cells #[.slice A n c, .pointer (some ⟨gr, 0, none⟩)] 91 (0, 0)) :: (gr, .cells #[.int .i64 (Z : Int), .slice (some ⟨gs, 0, none⟩) N cS] 129 (0, 0)) :: [])) (ds := []) #[false, false, false, false, false, false, false, false, false, false, false, false, false, false, false, false, false, false] (by kernel_rfl) rfl rfl (Own.drew (HO.out.picks (.cons (by (repeat (first | exact .head | apply Ext.tail))) (.cons (by (repeat (first | exact .head | apply Ext.tail))) (.nil))))) (fun hHeld => ?_)
  have HO_ := Aside0.mk HO.out.drew
  clear HO
  have HO := HO_
  clear HO_
  generalize World.drew _ = wr at HO hHeld ⊢
  refine Hp.pu_ 0 36 (Hp.up 18 1) ?_
  refine Hp.pu_ 1 37 (Hp.up 18 2) ?_
  refine Hp.pu_ 2 38 (Hp.up 18 3) ?_
  refine take_ (i := 3) (N := some 39) (v := .pointer (some ⟨gr, 0, none⟩)) (a' := ?_) (Hp.up 18 4) rfl rfl (by kernel_rfl) (fun _ _ _ h => h) (own_yield1 (by rfl) (x := .tmp 38) rfl (by rfl) (.head) Try.underlying29 (by rfl) (by rfl)) hHeld ?_ ?_
  rotate_left
  · simp only [Act.put, List.setIfInBounds_toArray, List.set_cons_zero, List.set_cons_succ, i64_w, i32_w]
    rfl
  refine Hp.pu_ 4 40 (Hp.up 18 5) ?_
  refine Hp.pu_ 5 41 (Hp.up 18 6) ?_
  refine take_ (i := 6) (N := some 42) (v := .slice (some ⟨gs, 0, none⟩) N cS) (a' := ?_) (Hp.up 18 7) rfl rfl (by kernel_rfl) (fun _ _ _ h => h) (own_yield1 (by rfl) (x := .tmp 41) rfl (by rfl) (.tail (.head)) Try.underlying127 (by rfl) (by rfl)) hHeld ?_ ?_
  rotate_left
  · simp only [Act.put, List.setIfInBounds_toArray, List.set_cons_zero, List.set_cons_succ, i64_w, i32_w]
    rfl
  refine Hp.pu_ 7 43 (Hp.up 18 8) ?_
  refine Hp.pu_ 8 44 (Hp.up 18 9) ?_
  refine Hp.pu_ 9 45 (Hp.up 18 10) ?_
  refine Hp.pu_ 10 46 (Hp.up 18 11) ?_
  refine take_ (i := 11) (N := some 47) (v := .pointer (some ⟨gr, 0, none⟩)) (a' := ?_) (Hp.up 18 12) rfl rfl (by kernel_rfl) (fun _ _ _ h => h) (own_yield1 (by rfl) (x := .tmp 46) rfl (by rfl) (.head) Try.underlying29 (by rfl) (by rfl)) hHeld ?_ ?_
  rotate_left
  · simp only [Act.put, List.setIfInBounds_toArray, List.set_cons_zero, List.set_cons_succ, i64_w, i32_w]
    rfl
  refine Hp.pu_ 12 48 (Hp.up 18 13) ?_
  refine Hp.pu_ 13 49 (Hp.up 18 14) ?_
  refine take_ (i := 14) (N := some 50) (v := .int .i64 (Z : Int)) (a' := ?_) (Hp.up 18 15) rfl rfl (by kernel_rfl) (fun _ _ _ h => h) (own_yield1 (by rfl) (x := .tmp 49) rfl (by rfl) (.tail (.head)) Try.underlying3 (by rfl) (by rfl)) hHeld ?_ ?_
  rotate_left
  · simp only [Act.put, List.setIfInBounds_toArray, List.set_cons_zero, List.set_cons_succ, i64_w, i32_w]
    rfl
  refine one_ (i := 15) (N := some 51) (Hp.up 18 16) rfl rfl (by kernel_rfl) (by decide) (fun K hK => ?_)
  refine own_make_k (z := .int .u8 0) (size := 1) (bytes := 1) (n := Z) HO.out (by rfl) (M := 51) rfl rfl hul (by kernel_rfl) rfl (by rfl) (by rfl) (by have := HS.out.hZ; omega) (by have := HS.out.hZ; show Z ≤ 9223372036854775807; omega) (made_u8 Z) ?_
  intro g51 w51 hO_
  clear HO; have HO := Aside0.mk hO_; clear hO_
  refine hK.out _ _ (HO.out.picks (.cons (by (repeat (first | exact .head | apply Ext.tail))) (.cons (by (repeat (first | exact .head | apply Ext.tail))) (.nil)))) (fun hHeld => ?_)
  clear hK K
  refine norm_ (a' := ?_) ?_ ?_
  rotate_left
  · show Act.put _ (some 51) _ = _
    simp only [Act.put, List.setIfInBounds_toArray, List.set_cons_zero, List.set_cons_succ, i64_w, i32_w]
    rfl
  refine Hp.pu_ 16 52 (Hp.up 18 17) ?_
  refine one_ (i := 17) (N := none) (Hp.up 18 18) rfl rfl (by kernel_rfl) (by decide) (fun K hK => ?_)
  refine own_store_k HO.out (by rfl) rfl (ty := 32) (x := .tmp 52) (y := .tmp 51) (v := slv Z g51) (cs' := (cs.setIfInBounds n (slv Z g51))) rfl (by rfl) (by rfl) (.tail (.tail (.tail (.tail .head)))) (by kernel_rfl) (by rfl) HCS.out rfl ?_
  intro wc hO_
  clear HO; have HO := Aside0.mk hO_; clear hO_
  refine hK.out _ _ (HO.out.picks (.cons (by (repeat (first | exact .head | apply Ext.tail))) (.cons (by (repeat (first | exact .head | apply Ext.tail))) (.nil)))) (fun hHeld => ?_)
  clear hK K
  refine done_ (by kernel_rfl) ?_
  clear hHeld
  try go_wp2
  refine start_ (n := 11) (S := fun W => Own w0 W ((gw, .cells #[.slice A n c, .pointer (some ⟨gr, 0, none⟩)] 91 (0, 0)) :: (g4, .cells #[.int .i64 x, .int .i64 y] 54 (0, 0)) :: [])) (ds := [10]) #[false, false, false, false, false, false, false, false, false, false, false] (by kernel_rfl) rfl rfl (Own.drew (HO.out.picks (.cons (by (repeat (first | exact .head | apply Ext.tail))) (.cons (by (repeat (first | exact .head | apply Ext.tail))) (.nil))))) (fun hHeld => ?_)
  have HO_ := Aside0.mk HO.out.drew
  clear HO
  have HO := HO_
  clear HO_
  generalize World.drew _ = wr at HO hHeld ⊢
  refine Hp.pu_ 0 53 (Hp.up 11 1) ?_
  refine Hp.pu_ 1 54 (Hp.up 11 2) ?_
  refine Hp.pu_ 2 55 (Hp.up 11 3) ?_
  refine Hp.pu_ 3 56 (Hp.up 11 4) ?_
  refine take_ (i := 4) (N := some 57) (v := .slice A n c) (a' := ?_) (Hp.up 11 5) rfl rfl (by kernel_rfl) (fun _ _ _ h => h) (own_yield1 (by rfl) (x := .tmp 56) rfl (by rfl) (.head) Try.underlying89 (by rfl) (by rfl)) hHeld ?_ ?_
  rotate_left
  · simp only [Act.put, List.setIfInBounds_toArray, List.set_cons_zero, List.set_cons_succ, i64_w, i32_w]
    rfl
  refine take_ (i := 5) (N := some 58) (v := .agg #[.int .i64 x, .int .i64 y]) (a' := ?_) (Hp.up 11 6) rfl rfl (by kernel_rfl) (fun _ _ _ h => h) (own_yieldN (by rfl) (x := .tmp 4) rfl (by rfl) (.tail .head) (vs := [.int .i64 x, .int .i64 y]) rfl huk (by rfl) (by kernel_rfl) rfl) hHeld ?_ ?_
  rotate_left
  · simp only [Act.put, List.setIfInBounds_toArray, List.set_cons_zero, List.set_cons_succ, i64_w, i32_w]
    rfl
  refine one_ (i := 6) (N := some 59) (Hp.up 11 7) rfl rfl (by kernel_rfl) (by decide) (fun K hK => ?_)
  refine own_lit_k HO.out (by rfl) (N := 59) rfl (cs := #[.int .i64 x, .int .i64 y]) (t := 54) (n := 1) (m := 1) (by first | (go_simp; done) | (go_simp; rfl) | kernel_rfl) ?_
  intro g59 w59 hO_
  clear HO; have HO := Aside0.mk hO_; clear hO_
  refine hK.out _ _ (HO.out.picks (.cons (by (repeat (first | exact .head | apply Ext.tail))) (.cons (by (repeat (first | exact .head | apply Ext.tail))) (.nil)))) (fun hHeld => ?_)
  clear hK K
  refine norm_ (a' := ?_) ?_ ?_
  rotate_left
  · show Act.put _ (some 59) _ = _
    simp only [Act.put, List.setIfInBounds_toArray, List.set_cons_zero, List.set_cons_succ, i64_w, i32_w]
    rfl
  refine one_ (i := 7) (N := some 60) (Hp.up 11 8) rfl rfl (by kernel_rfl) (by decide) (fun K hK => ?_)
  refine own_append_k (z := .agg #[.int .i64 0, .int .i64 0]) (size := 2) (bytes := 16) (R := RK) (L := (P ++ (g, .cells (u8s D[n]) 5 (0, 0)) :: Q) ++ L) [(g59, .cells #[.int .i64 x, .int .i64 y] 54 (0, 0)), (gs, .cells (cs.setIfInBounds n (slv Z g51)) 32 (0, 0)), (g51, .cells (u8s (List.replicate Z 0)) 5 (0, 0)), (gw, .cells #[.slice A n c, .pointer (some ⟨gr, 0, none⟩)] 91 (0, 0)), (gr, .cells #[.int .i64 (Z : Int), .slice (some ⟨gs, 0, none⟩) N cS] 129 (0, 0)), (g4, .cells #[.int .i64 x, .int .i64 y] 54 (0, 0))] HO.out (by rfl) (N := 60) rfl rfl huks (by kernel_rfl) rfl (by rfl) HS.out.row (by rfl) (HO.out.src huks .head 0 1 1 [.int .i64 x, .int .i64 y] rfl rfl (by simp [Value.oneCell'])) (by have := HS.out.nle; have := HS.out.hN; show n + 1 ≤ 9223372036854775807; omega) (by have := HS.out.nle; have := HS.out.hN; omega) ?_
  intro v2 R2 wc hR2 hO_
  obtain ⟨A2, c2, rfl⟩ := RowOf.shape hR2
  have HR2 := Aside0.mk hR2
  clear hR2
  have hO_ : Own w0 wc ((g59, .cells #[.int .i64 x, .int .i64 y] 54 (0, 0)) :: (gs, .cells (cs.setIfInBounds n (slv Z g51)) 32 (0, 0)) :: (g51, .cells (u8s (List.replicate Z 0)) 5 (0, 0)) :: (gw, .cells #[.slice A n c, .pointer (some ⟨gr, 0, none⟩)] 91 (0, 0)) :: (gr, .cells #[.int .i64 (Z : Int), .slice (some ⟨gs, 0, none⟩) N cS] 129 (0, 0)) :: (g4, .cells #[.int .i64 x, .int .i64 y] 54 (0, 0)) :: (R2 ++ ((P ++ (g, .cells (u8s D[n]) 5 (0, 0)) :: Q) ++ L))) := hO_
  clear HO; have HO := Aside0.mk hO_; clear hO_
  refine hK.out _ _ (HO.out.picks (.cons (by (repeat (first | exact .head | apply Ext.tail))) (.cons (by (repeat (first | exact .head | apply Ext.tail))) (.nil)))) (fun hHeld => ?_)
  clear hK K
  refine norm_ (a' := ?_) ?_ ?_
  rotate_left
  · show Act.put _ (some 60) _ = _
    simp only [Act.put, List.setIfInBounds_toArray, List.set_cons_zero, List.set_cons_succ, i64_w, i32_w]
    rfl
  refine Hp.pu_ 8 61 (Hp.up 11 9) ?_
  refine Hp.pu_ 9 62 (Hp.up 11 10) ?_
  refine last_ (i := 10) (N := none) (Hp.up 11 11) rfl rfl (by kernel_rfl) (by decide) (fun K hK => ?_)
  refine own_store_k HO.out (by rfl) rfl (ty := 89) (x := .tmp 62) (y := .tmp 60) (v := .slice A2 (n + 1) c2) (cs' := #[.slice A2 (n + 1) c2, .pointer (some ⟨gr, 0, none⟩)]) rfl (by rfl) (by rfl) (by (repeat (first | exact .head | apply Ext.tail))) (by kernel_rfl) (by rfl) (by first | decide | (simp; done)) (by rfl) ?_
  intro wc hO_
  clear HO; have HO := Aside0.mk hO_; clear hO_
  refine hK.out _ _ ?_
  clear hK K
  refine done_ (by kernel_rfl) ?_
  clear hHeld
  go_wp2
  refine bodyPost_ret (results_tmp2 rfl _ _ _) rfl ?_
  refine ⟨rfl, R2, A2, _, c2, _, _, _, rfl, rfl, rfl, ⟨by rw [kcells_app]; exact HR2.out, by rw [List.length_append, HS.out.kl]; rfl, HFN.out, HS.out.hN, HS.out.hZ, HPUT.out g51 _ (by simp), by rw [List.length_set]; exact HS.out.dl⟩, ?_⟩
  exact HO.out.rep [(g59, .cells #[.int .i64 x, .int .i64 y] 54 (0, 0)), (g4, .cells #[.int .i64 x, .int .i64 y] 54 (0, 0)), (g, .cells (u8s D[n]) 5 (0, 0))] (by classical exact List.perm_iff_count.2 (fun a => by simp only [List.count_append, List.count_cons, List.count_nil, List.append_assoc, List.cons_append, List.nil_append]; ac_rfl))
end Go.Proofs.Lc
