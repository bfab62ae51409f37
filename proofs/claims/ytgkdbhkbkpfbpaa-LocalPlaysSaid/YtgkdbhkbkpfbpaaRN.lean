/- Get and Drop as one law each; Same. No conditions beyond each theorem's own. -/
import Derived.Test.YtgkdbhkbkpfbpaaRM
set_option linter.unusedVariables false
set_option linter.unusedSimpArgs false
namespace Go.Proofs.Lc
open Go.RowKit Go.Proofs.Ev Go.Proofs.Hp Go.Proofs.Ar Go.Proofs.YtgkdbhkbkpfbpaaW.PrintWords Go.Proofs.YtgkdbhkbkpfbpaaW.PrintLast Go.Proofs.YtgkdbhkbkpfbpaaW.PrintMore
attribute [local go_sem] max2_int min2_int max_two min_two max_three min_three max_four min_four eql_slice_nil
theorem ds_len : ∀ (m i : Nat) (D : List (List Int)), (dshift m i D).length = D.length
  | 0, _, _ => rfl
  | m + 1, i, D => by unfold dshift; rw [ds_len m, List.length_set]
theorem ds_opt : ∀ (m i : Nat) (D : List (List Int)) (j : Nat), i + m < D.length → (dshift m i D)[j]? = if i ≤ j ∧ j < i + m then D[j + 1]? else D[j]?
  | 0, i, D, j, h => by rw [if_neg (by omega)]; rfl
  | m + 1, i, D, j, h => by
    unfold dshift
    rw [ds_opt m (i + 1) _ j (by rw [List.length_set]; omega)]
    have e : D.getD (i + 1) [] = D[i + 1]'(by omega) := by simp [List.getD_eq_getElem?_getD, List.getElem?_eq_getElem (show i + 1 < D.length by omega)]
    rw [e]
    simp only [List.getElem?_set]
    by_cases hij : i = j
    · subst hij
      rw [if_neg (by omega), if_pos rfl, if_pos (by omega), if_pos (by omega), List.getElem?_eq_getElem (by omega)]
    · by_cases h2 : i + 1 ≤ j ∧ j < i + 1 + m
      · rw [if_pos h2, if_neg (by omega), if_pos (by omega)]
      · rw [if_neg h2, if_neg hij, if_neg (by omega)]
theorem moved_eq (D : List (List Int)) (k n n1 : Nat) (z : List Int) (hn1 : n1 + 1 = n) (hk : k < n) (hn : n ≤ D.length) : (dshift (n1 - k) k D).set n1 z = moved D k n z := by
  apply List.ext_getElem?
  intro j
  rw [List.getElem?_set, ds_len, ds_opt _ _ _ _ (by omega)]
  unfold moved
  rw [List.getElem?_append, List.length_eraseIdx, List.length_take, Nat.min_eq_left hn, if_pos hk, List.getElem?_eraseIdx]
  by_cases h1 : j < n - 1
  · rw [if_pos h1, if_neg (by omega)]
    by_cases h2 : j < k
    · rw [if_pos h2, if_neg (by omega), List.getElem?_take, if_pos (by omega)]
    · rw [if_neg h2, if_pos (by omega), List.getElem?_take, if_pos (by omega)]
  · rw [if_neg h1]
    by_cases h2 : n1 = j
    · subst h2
      rw [if_pos rfl, if_pos (by omega), show n1 - (n - 1) = 0 by omega]
      rfl
    · rw [if_neg h2, if_neg (by omega), show j - (n - 1) = (j - n) + 1 by omega, List.getElem?_cons_succ, List.getElem?_drop]
      congr 1
      omega
theorem kfind_or (x : Int × Int) : ∀ (K : List (Int × Int)) (i : Nat), kfind x K i = -1 ∨ ∃ k : Nat, kfind x K i = (k : Int)
  | [], _ => .inl rfl
  | a :: K, i => by
    unfold kfind
    split
    · exact .inr ⟨i, rfl⟩
    · exact kfind_or x K (i + 1)
/-- What Get answers and leaves. -/
def gst (K : List (Int × Int)) (D : List (List Int)) (q : Int × Int) (b : Bool) (N Z : Nat) : Int × Int × List (Int × Int) × List (List Int) :=
  if 0 ≤ kfind q K 0 then (kfind q K 0, 0, K, D) else if b = false then (0, 2, K, D) else if K.length = N then (0, 28, K, D) else ((K.length : Int), 0, K ++ [q], D.set K.length (List.replicate Z 0))
/-- What Drop answers and leaves. -/
def dst12 (K : List (Int × Int)) (D : List (List Int)) (q : Int × Int) (Z : Nat) : Int × List (Int × Int) × List (List Int) :=
  if 0 ≤ kfind q K 0 then (0, K.eraseIdx (kfind q K 0).toNat, moved D (kfind q K 0).toNat K.length (List.replicate Z 0)) else (2, K, D)
theorem pget (w0 w : World) (L RK : Hl) (gl ga gb Z N NN : Nat) (A : Option Addr) (n c : Nat) (K : List (Int × Int)) (D : List (List Int)) (hN : LNum Z N NN) (hS : LSt Z N RK A n c K D) (x y : Int) (b : Bool) (ka er : Int) (K2 : List (Int × Int)) (D2 : List (List Int)) (hg : gst K D (x, y) b N Z = (ka, er, K2, D2)) (hO : Own w0 w ((gl, .cells #[.slice A n c, .pointer (some ⟨ga, 0, none⟩)] 140 (0, 0)) :: (ga, .cells #[.int .i64 (Z : Int), .slice (some ⟨gb, 0, none⟩) NN NN] 126 (0, 0)) :: (gb, .cells (u8s D.flatten) 5 (0, 0)) :: (RK ++ L))) :
    Calls Try.prog 35 #[.pointer (some ⟨gl, 0, none⟩), .agg #[.int .i64 x, .int .i64 y], .bool b] w fun e w' => e = .returned (.tuple #[.int .i64 ka, .int .i64 er]) ∧ ∃ R2 A2 n2 c2, LSt Z N R2 A2 n2 c2 K2 D2 ∧ Own w0 w' ((gl, .cells #[.slice A2 n2 c2, .pointer (some ⟨ga, 0, none⟩)] 140 (0, 0)) :: (ga, .cells #[.int .i64 (Z : Int), .slice (some ⟨gb, 0, none⟩) NN NN] 126 (0, 0)) :: (gb, .cells (u8s D2.flatten) 5 (0, 0)) :: (R2 ++ L)) := by
  unfold gst at hg
  rcases kfind_or (x, y) K 0 with h | ⟨k, h⟩
  · rw [h, if_neg (by decide)] at hg
    cases b with
    | false =>
      simp only [if_true, Prod.mk.injEq] at hg
      obtain ⟨rfl, rfl, rfl, rfl⟩ := hg
      exact (get_not w0 w L RK gl ga gb Z N NN A n c K D hN hS x y h hO).mono fun e w' ⟨h1, h2⟩ => ⟨h1, RK, A, n, c, hS, h2⟩
    | true =>
      rw [if_neg (by decide)] at hg
      by_cases hf : K.length = N
      · simp only [if_pos hf, Prod.mk.injEq] at hg
        obtain ⟨rfl, rfl, rfl, rfl⟩ := hg
        exact (get_full w0 w L RK gl ga gb Z N NN A n c K D hN hS x y h (hS.kl.symm.trans hf) hO).mono fun e w' ⟨h1, h2⟩ => ⟨h1, RK, A, n, c, hS, h2⟩
      · simp only [if_neg hf, Prod.mk.injEq] at hg
        obtain ⟨rfl, rfl, rfl, rfl⟩ := hg
        refine (get_new2 w0 w L RK gl ga gb Z N NN A n c K D hN hS x y h (by have := hS.kl; have := hS.nle; omega) hO).mono fun e w' ⟨h1, R2, A2, n2, c2, _, _, _, rfl, rfl, h2, h3⟩ => ⟨?_, R2, A2, n2, c2, ?_, ?_⟩
        · rw [hS.kl]; exact h1
        · rw [hS.kl]; exact h2
        · rw [hS.kl]; exact h3
  · rw [h, if_pos (by omega)] at hg
    simp only [Prod.mk.injEq] at hg
    obtain ⟨rfl, rfl, rfl, rfl⟩ := hg
    exact (get_has w0 w L RK gl ga gb Z N NN A n c K D hN hS x y b k h hO).mono fun e w' ⟨h1, h2⟩ => ⟨h1, RK, A, n, c, hS, h2⟩
theorem dget (w0 w : World) (L RK X : Hl) (gw gr Z N : Nat) (A AS : Option Addr) (n c cS : Nat) (K : List (Int × Int)) (D : List (List Int)) (hS : RSt12 Z N RK A n c X AS cS K D) (x y : Int) (b : Bool) (ka er : Int) (K2 : List (Int × Int)) (D2 : List (List Int)) (hg : gst K D (x, y) b N Z = (ka, er, K2, D2)) (hO : Own w0 w ((gw, .cells #[.slice A n c, .pointer (some ⟨gr, 0, none⟩)] 91 (0, 0)) :: (gr, .cells #[.int .i64 (Z : Int), .slice AS N cS] 129 (0, 0)) :: (RK ++ (X ++ L)))) :
    Calls Try.prog 57 #[.pointer (some ⟨gw, 0, none⟩), .agg #[.int .i64 x, .int .i64 y], .bool b] w fun e w' => e = .returned (.tuple #[.int .i64 ka, .int .i64 er]) ∧ ∃ R2 A2 n2 c2 X2, RSt12 Z N R2 A2 n2 c2 X2 AS cS K2 D2 ∧ Own w0 w' ((gw, .cells #[.slice A2 n2 c2, .pointer (some ⟨gr, 0, none⟩)] 91 (0, 0)) :: (gr, .cells #[.int .i64 (Z : Int), .slice AS N cS] 129 (0, 0)) :: (R2 ++ (X2 ++ L))) := by
  unfold gst at hg
  rcases kfind_or (x, y) K 0 with h | ⟨k, h⟩
  · rw [h, if_neg (by decide)] at hg
    cases b with
    | false =>
      simp only [if_true, Prod.mk.injEq] at hg
      obtain ⟨rfl, rfl, rfl, rfl⟩ := hg
      exact (rget_not w0 w L RK X gw gr Z N A AS n c cS K D hS x y h hO).mono fun e w' ⟨h1, h2⟩ => ⟨h1, RK, A, n, c, X, hS, h2⟩
    | true =>
      rw [if_neg (by decide)] at hg
      by_cases hf : K.length = N
      · simp only [if_pos hf, Prod.mk.injEq] at hg
        obtain ⟨rfl, rfl, rfl, rfl⟩ := hg
        exact (rget_full w0 w L RK X gw gr Z N A AS n c cS K D hS x y h (hS.kl.symm.trans hf) hO).mono fun e w' ⟨h1, h2⟩ => ⟨h1, RK, A, n, c, X, hS, h2⟩
      · simp only [if_neg hf, Prod.mk.injEq] at hg
        obtain ⟨rfl, rfl, rfl, rfl⟩ := hg
        refine (rget_new w0 w L RK X gw gr Z N A AS n c cS K D hS x y h (by have := hS.kl; have := hS.nle; omega) hO).mono fun e w' ⟨h1, R2, A2, n2, c2, X2, _, _, _, rfl, rfl, h2, h3⟩ => ⟨?_, R2, A2, n2, c2, X2, ?_, ?_⟩
        · rw [hS.kl]; exact h1
        · rw [hS.kl]; exact h2
        · exact h3
  · rw [h, if_pos (by omega)] at hg
    simp only [Prod.mk.injEq] at hg
    obtain ⟨rfl, rfl, rfl, rfl⟩ := hg
    exact (rget_has w0 w L RK X gw gr Z N A AS n c cS K D hS x y b k h hO).mono fun e w' ⟨h1, h2⟩ => ⟨h1, RK, A, n, c, X, hS, h2⟩
theorem pdrop (w0 w : World) (L RK : Hl) (gl ga gb Z N NN : Nat) (A : Option Addr) (n c : Nat) (K : List (Int × Int)) (D : List (List Int)) (hN : LNum Z N NN) (hS : LSt Z N RK A n c K D) (x y : Int) (er : Int) (K2 : List (Int × Int)) (D2 : List (List Int)) (hg : dst12 K D (x, y) Z = (er, K2, D2)) (hO : Own w0 w ((gl, .cells #[.slice A n c, .pointer (some ⟨ga, 0, none⟩)] 140 (0, 0)) :: (ga, .cells #[.int .i64 (Z : Int), .slice (some ⟨gb, 0, none⟩) NN NN] 126 (0, 0)) :: (gb, .cells (u8s D.flatten) 5 (0, 0)) :: (RK ++ L))) :
    Calls Try.prog 37 #[.pointer (some ⟨gl, 0, none⟩), .agg #[.int .i64 x, .int .i64 y]] w fun e w' => e = .returned (.int .i64 er) ∧ ∃ R2 A2 n2 c2, LSt Z N R2 A2 n2 c2 K2 D2 ∧ Own w0 w' ((gl, .cells #[.slice A2 n2 c2, .pointer (some ⟨ga, 0, none⟩)] 140 (0, 0)) :: (ga, .cells #[.int .i64 (Z : Int), .slice (some ⟨gb, 0, none⟩) NN NN] 126 (0, 0)) :: (gb, .cells (u8s D2.flatten) 5 (0, 0)) :: (R2 ++ L)) := by
  unfold dst12 at hg
  rcases kfind_or (x, y) K 0 with h | ⟨k, h⟩
  · simp only [h, if_neg (show ¬ (0 : Int) ≤ -1 by decide), Prod.mk.injEq] at hg
    obtain ⟨rfl, rfl, rfl⟩ := hg
    exact (drop_not w0 w L RK gl ga gb Z N NN A n c K D hN hS x y h hO).mono fun e w' ⟨h1, h2⟩ => ⟨h1, RK, A, n, c, hS, h2⟩
  · have hkn := kfind_lt (x, y) K 0 k h
    rw [h, if_pos (by omega)] at hg
    simp only [Int.toNat_natCast, Prod.mk.injEq] at hg
    obtain ⟨rfl, rfl, rfl⟩ := hg
    have hkl := hS.kl
    have hnl := hS.nle
    have hdl := hS.dl
    obtain ⟨n1, hn1⟩ : ∃ n1, n1 + 1 = n := ⟨n - 1, by omega⟩
    refine (drop_has2 w0 w L RK gl ga gb Z N NN A n c K D hN hS x y k (k + 1) n1 h rfl hn1 hO).mono fun e w' ⟨h1, R2, A2, n2, c2, K2, D2, h4, h5, h6, h2, h3⟩ => ⟨h1, R2, A2, n2, c2, ?_, ?_⟩
    all_goals
      have e2 := moved_eq D k n n1 (List.replicate Z 0) hn1 (by omega) (by omega)
      rw [hkl, ← e2, ← h6]
    · rw [← h5]; exact h2
    · exact h3
theorem ddrop (w0 w : World) (L RK X : Hl) (gw gr Z N : Nat) (A AS : Option Addr) (n c cS : Nat) (K : List (Int × Int)) (D : List (List Int)) (hS : RSt12 Z N RK A n c X AS cS K D) (x y : Int) (er : Int) (K2 : List (Int × Int)) (D2 : List (List Int)) (hg : dst12 K D (x, y) Z = (er, K2, D2)) (hO : Own w0 w ((gw, .cells #[.slice A n c, .pointer (some ⟨gr, 0, none⟩)] 91 (0, 0)) :: (gr, .cells #[.int .i64 (Z : Int), .slice AS N cS] 129 (0, 0)) :: (RK ++ (X ++ L)))) :
    Calls Try.prog 56 #[.pointer (some ⟨gw, 0, none⟩), .agg #[.int .i64 x, .int .i64 y]] w fun e w' => e = .returned (.int .i64 er) ∧ ∃ R2 A2 n2 c2 X2 AS2 cS2, RSt12 Z N R2 A2 n2 c2 X2 AS2 cS2 K2 D2 ∧ Own w0 w' ((gw, .cells #[.slice A2 n2 c2, .pointer (some ⟨gr, 0, none⟩)] 91 (0, 0)) :: (gr, .cells #[.int .i64 (Z : Int), .slice AS2 N cS2] 129 (0, 0)) :: (R2 ++ (X2 ++ L))) := by
  unfold dst12 at hg
  rcases kfind_or (x, y) K 0 with h | ⟨k, h⟩
  · simp only [h, if_neg (show ¬ (0 : Int) ≤ -1 by decide), Prod.mk.injEq] at hg
    obtain ⟨rfl, rfl, rfl⟩ := hg
    exact (rdrop_not w0 w L RK X gw gr Z N A AS n c cS K D hS x y h hO).mono fun e w' ⟨h1, h2⟩ => ⟨h1, RK, A, n, c, X, AS, cS, hS, h2⟩
  · rw [h, if_pos (by omega)] at hg
    simp only [Int.toNat_natCast, Prod.mk.injEq] at hg
    obtain ⟨rfl, rfl, rfl⟩ := hg
    refine (rdrop_has w0 w L RK X gw gr Z N A AS n c cS K D hS x y k h hO).mono fun e w' ⟨h1, R2, A2, n1, c2, X2, AS2, cS2, K2, D2, h4, h5, h6, h2, h3⟩ => ⟨h1, R2, A2, n1, c2, X2, AS2, cS2, ?_, h3⟩
    rw [hS.kl, ← h6, ← h5]
    exact h2
set_option maxHeartbeats 8000000 in
set_option maxRecDepth 100000 in
theorem lnew_bad (z nn : Int) (w : World) (h : ¬ (1 ≤ z ∧ z ≤ 32 ∧ 1 ≤ nn ∧ nn ≤ 16)) : Calls Try.prog 34 #[.int .i64 z, .int .i64 nn] w fun e w' => e = .returned (.tuple #[.pointer none, .int .i64 22]) ∧ w' = w := by
  have HB := Aside0.mk h
  clear h
  go_enter Try.func34, Try.ntmps34
  go_wp2_with (first | ((with_reducible refine gate_callee (f := 14) rfl ?_); (with_reducible refine gate_dst (N := 11) rfl ?_); refine goesL_ (some 11) rfl rfl Try.func14 (by kernel_rfl) rfl #[.int .i64 z, .int .i64 nn] rfl (by (try simp only [List.map_toArray, List.map_cons, List.map_nil]); first | done | rfl) ?_; (with_reducible refine (new_bad z nn _ HB.out).mono ?_); rintro e wx ⟨rfl, rfl⟩; refine ⟨_, rfl, ?_⟩; skip))
  refine bodyPost_ret (results_tmp2 rfl _ _ _) rfl ?_
  exact ⟨rfl, rfl⟩
set_option maxHeartbeats 8000000 in
set_option maxRecDepth 100000 in
theorem same12 (w0 w : World) (L RK RW X : Hl) (gl ga gb gw gr Z N NN : Nat) (A AW AS : Option Addr) (n c cw cS : Nat) (K0 : List (Int × Int)) (D : List (List Int)) (hN : LNum Z N NN) (hS : LSt Z N RK A n c K0 D) (hW : RSt12 Z N RW AW n cw X AS cS K0 D) (hO : Own w0 w ((gl, .cells #[.slice A n c, .pointer (some ⟨ga, 0, none⟩)] 140 (0, 0)) :: (ga, .cells #[.int .i64 (Z : Int), .slice (some ⟨gb, 0, none⟩) NN NN] 126 (0, 0)) :: (gb, .cells (u8s D.flatten) 5 (0, 0)) :: (RK ++ ((gw, .cells #[.slice AW n cw, .pointer (some ⟨gr, 0, none⟩)] 91 (0, 0)) :: (gr, .cells #[.int .i64 (Z : Int), .slice AS N cS] 129 (0, 0)) :: (RW ++ (X ++ L)))))) :
    Calls Try.prog 58 #[.pointer (some ⟨gl, 0, none⟩), .pointer (some ⟨gw, 0, none⟩)] w fun e w' => e = .returned (.bool true) ∧ Own w0 w' ((gl, .cells #[.slice A n c, .pointer (some ⟨ga, 0, none⟩)] 140 (0, 0)) :: (ga, .cells #[.int .i64 (Z : Int), .slice (some ⟨gb, 0, none⟩) NN NN] 126 (0, 0)) :: (gb, .cells (u8s D.flatten) 5 (0, 0)) :: (RK ++ ((gw, .cells #[.slice AW n cw, .pointer (some ⟨gr, 0, none⟩)] 91 (0, 0)) :: (gr, .cells #[.int .i64 (Z : Int), .slice AS N cS] 129 (0, 0)) :: (RW ++ (X ++ L))))) := by
  have hui := Try.underlying3
  have hul := Try.underlying32
  have huk := Try.underlying54
  have huks := Try.underlying89
  have hull := Try.underlying127
  have hup := Try.underlying29
  have hu8 := Try.underlying5
  have hus := Try.underlying9
  have hupr := Try.underlying29
  have HO : Aside0 (Own w0 w ((gl, .cells #[.slice A n c, .pointer (some ⟨ga, 0, none⟩)] 140 (0, 0)) :: (ga, .cells #[.int .i64 (Z : Int), .slice (some ⟨gb, 0, none⟩) NN NN] 126 (0, 0)) :: (gb, .cells (u8s D.flatten) 5 (0, 0)) :: (RK ++ ((gw, .cells #[.slice AW n cw, .pointer (some ⟨gr, 0, none⟩)] 91 (0, 0)) :: (gr, .cells #[.int .i64 (Z : Int), .slice AS N cS] 129 (0, 0)) :: (RW ++ (X ++ L)))))) := ⟨hO⟩
  have HN := Aside0.mk hN
  have HS := Aside0.mk hS
  have HW := Aside0.mk hW
  clear hO hN hS hW
  go_enter Try.func58, Try.ntmps58
  go_wp2
  refine start_ (n := 30) (S := fun W => Own w0 W [(gw, .cells #[.slice AW n cw, .pointer (some ⟨gr, 0, none⟩)] 91 (0, 0))]) (ds := []) #[false, false, false, false, false, false, false, false, false, false, false, false, false, false, false, false, false, false, false, false, false, false, false, false, false, false, false, false, false, false] (by kernel_rfl) rfl rfl (Own.drew (HO.out.rep (L' := [(gw, .cells #[.slice AW n cw, .pointer (some ⟨gr, 0, none⟩)] 91 (0, 0))]) ((gl, .cells #[.slice A n c, .pointer (some ⟨ga, 0, none⟩)] 140 (0, 0)) :: (ga, .cells #[.int .i64 (Z : Int), .slice (some ⟨gb, 0, none⟩) NN NN] 126 (0, 0)) :: (gb, .cells (u8s D.flatten) 5 (0, 0)) :: (gr, .cells #[.int .i64 (Z : Int), .slice AS N cS] 129 (0, 0)) :: (RK ++ (RW ++ (X ++ (L))))) (by classical exact List.perm_iff_count.2 (fun a => by simp only [List.count_append, List.count_cons, List.count_nil, List.append_assoc, List.cons_append, List.nil_append]; ac_rfl)))) (fun hHeld => ?_)
  have HO_ := Aside0.mk HO.out.drew
  clear HO
  have HO := HO_
  clear HO_
  generalize World.drew _ = wr at HO hHeld ⊢
  refine Hp.pu_ 0 5 (Hp.up 30 1) ?_
  refine Hp.pu_ 2 7 #[true, false, true, false, false, false, false, false, false, false, false, false, false, false, false, false, false, false, false, false, false, false, false, false, false, false, false, false, false, false] ?_
  refine Hp.pu_ 3 8 #[true, false, true, true, false, false, false, false, false, false, false, false, false, false, false, false, false, false, false, false, false, false, false, false, false, false, false, false, false, false] ?_
  refine Hp.pu_ 4 9 #[true, false, true, true, true, false, false, false, false, false, false, false, false, false, false, false, false, false, false, false, false, false, false, false, false, false, false, false, false, false] ?_
  refine take_ (i := 5) (N := some 10) (v := .slice AW n cw) (a' := ?_) #[true, false, true, true, true, true, false, false, false, false, false, false, false, false, false, false, false, false, false, false, false, false, false, false, false, false, false, false, false, false] rfl rfl (by kernel_rfl) (fun _ _ _ h => h) (own_yield1 (by rfl) (x := .tmp 9) rfl (by rfl) (.head) huks (by rfl) (by rfl)) hHeld ?_ ?_
  rotate_left
  · simp only [Act.put, List.setIfInBounds_toArray, List.set_cons_zero, List.set_cons_succ, i64_w, i32_w]
    rfl
  refine Hp.pu_ 6 11 #[true, false, true, true, true, true, true, false, false, false, false, false, false, false, false, false, false, false, false, false, false, false, false, false, false, false, false, false, false, false] ?_
  refine one_ (i := 1) (N := some 6) (Hp.up 30 7) rfl rfl (by kernel_rfl) (by decide) (fun K hK => ?_)
  refine goes_ Try.func38 (by kernel_rfl) rfl #[.pointer (some ⟨gl, 0, none⟩)] (by rfl) rfl rfl (by (try simp only [List.map_toArray, List.map_cons, List.map_nil]); first | done | rfl) ?_
  refine (llen_calls w0 _ ((gw, .cells #[.slice AW n cw, .pointer (some ⟨gr, 0, none⟩)] 91 (0, 0)) :: (gr, .cells #[.int .i64 (Z : Int), .slice AS N cS] 129 (0, 0)) :: (RW ++ (X ++ L))) RK gl ga gb Z N NN A n c K0 D HN.out HS.out HO.out).mono ?_
  rintro e wx ⟨rfl, hO_⟩
  refine ⟨_, rfl, ?_⟩
  clear HO; have HO := Aside0.mk hO_; clear hO_
  refine hK.out _ _ (HO.out.rep (L' := [(gw, .cells #[.slice AW n cw, .pointer (some ⟨gr, 0, none⟩)] 91 (0, 0))]) ((gl, .cells #[.slice A n c, .pointer (some ⟨ga, 0, none⟩)] 140 (0, 0)) :: (ga, .cells #[.int .i64 (Z : Int), .slice (some ⟨gb, 0, none⟩) NN NN] 126 (0, 0)) :: (gb, .cells (u8s D.flatten) 5 (0, 0)) :: (gr, .cells #[.int .i64 (Z : Int), .slice AS N cS] 129 (0, 0)) :: (RK ++ (RW ++ (X ++ (L))))) (by classical exact List.perm_iff_count.2 (fun a => by simp only [List.count_append, List.count_cons, List.count_nil, List.append_assoc, List.cons_append, List.nil_append]; ac_rfl))) (fun hHeld => ?_)
  clear hK K
  refine norm_ (a' := ?_) ?_ ?_
  rotate_left
  · show Act.put _ (some 6) _ = _
    simp only [Act.put, List.setIfInBounds_toArray, List.set_cons_zero, List.set_cons_succ, i64_w, i32_w]
    rfl
  refine Hp.pu_ 7 12 (Hp.up 30 8) ?_
  refine Hp.pu_ 8 13 (Hp.up 30 9) ?_
  refine Hp.pu_ 9 14 (Hp.up 30 10) ?_
  refine Hp.pu_ 11 16 #[true, true, true, true, true, true, true, true, true, true, false, true, false, false, false, false, false, false, false, false, false, false, false, false, false, false, false, false, false, false] ?_
  refine Hp.pu_ 12 17 #[true, true, true, true, true, true, true, true, true, true, false, true, true, false, false, false, false, false, false, false, false, false, false, false, false, false, false, false, false, false] ?_
  refine Hp.pu_ 13 18 #[true, true, true, true, true, true, true, true, true, true, false, true, true, true, false, false, false, false, false, false, false, false, false, false, false, false, false, false, false, false] ?_
  refine take_ (i := 14) (N := some 19) (v := .slice AW n cw) (a' := ?_) #[true, true, true, true, true, true, true, true, true, true, false, true, true, true, true, false, false, false, false, false, false, false, false, false, false, false, false, false, false, false] rfl rfl (by kernel_rfl) (fun _ _ _ h => h) (own_yield1 (by rfl) (x := .tmp 18) rfl (by rfl) (.head) huks (by rfl) (by rfl)) hHeld ?_ ?_
  rotate_left
  · simp only [Act.put, List.setIfInBounds_toArray, List.set_cons_zero, List.set_cons_succ, i64_w, i32_w]
    rfl
  refine one_ (i := 10) (N := some 15) (Hp.up 30 15) rfl rfl (by kernel_rfl) (by decide) (fun K hK => ?_)
  refine goes_ Try.func91 (by kernel_rfl) rfl #[.pointer (some ⟨gl, 0, none⟩)] (by rfl) rfl rfl (by (try simp only [List.map_toArray, List.map_cons, List.map_nil]); first | done | rfl) ?_
  refine (lkeys w0 _ ((gw, .cells #[.slice AW n cw, .pointer (some ⟨gr, 0, none⟩)] 91 (0, 0)) :: (gr, .cells #[.int .i64 (Z : Int), .slice AS N cS] 129 (0, 0)) :: (RW ++ (X ++ L))) RK gl ga gb Z N NN A n c K0 D HN.out HS.out HO.out).mono ?_
  rintro e wx ⟨v5, rfl, R5, hR5, hO_⟩
  refine ⟨_, rfl, ?_⟩
  obtain ⟨A5, c5, rfl⟩ := RowOf.shape hR5
  have HR5 := Aside0.mk hR5
  clear hR5
  clear HO; have HO := Aside0.mk hO_; clear hO_
  refine hK.out _ _ (HO.out.rep (L' := [(gw, .cells #[.slice AW n cw, .pointer (some ⟨gr, 0, none⟩)] 91 (0, 0))]) ((gl, .cells #[.slice A n c, .pointer (some ⟨ga, 0, none⟩)] 140 (0, 0)) :: (ga, .cells #[.int .i64 (Z : Int), .slice (some ⟨gb, 0, none⟩) NN NN] 126 (0, 0)) :: (gb, .cells (u8s D.flatten) 5 (0, 0)) :: (gr, .cells #[.int .i64 (Z : Int), .slice AS N cS] 129 (0, 0)) :: (RK ++ (RW ++ (X ++ (R5 ++ L))))) (by classical exact List.perm_iff_count.2 (fun a => by simp only [List.count_append, List.count_cons, List.count_nil, List.append_assoc, List.cons_append, List.nil_append]; ac_rfl))) (fun hHeld => ?_)
  clear hK K
  refine norm_ (a' := ?_) ?_ ?_
  rotate_left
  · show Act.put _ (some 15) _ = _
    simp only [Act.put, List.setIfInBounds_toArray, List.set_cons_zero, List.set_cons_succ, i64_w, i32_w]
    rfl
  refine one_ (i := 15) (N := some 20) (Hp.up 30 16) rfl rfl (by kernel_rfl) (by decide) (fun K hK => ?_)
  refine goes_ Try.func90 (by kernel_rfl) rfl #[.slice A5 n c5, .slice AW n cw] (by rfl) rfl rfl (by (try simp only [List.map_toArray, List.map_cons, List.map_nil]); first | done | rfl) ?_
  refine (keyed_true w0 _ ((gl, .cells #[.slice A n c, .pointer (some ⟨ga, 0, none⟩)] 140 (0, 0)) :: (ga, .cells #[.int .i64 (Z : Int), .slice (some ⟨gb, 0, none⟩) NN NN] 126 (0, 0)) :: (gb, .cells (u8s D.flatten) 5 (0, 0)) :: (RK ++ ((gw, .cells #[.slice AW n cw, .pointer (some ⟨gr, 0, none⟩)] 91 (0, 0)) :: (gr, .cells #[.int .i64 (Z : Int), .slice AS N cS] 129 (0, 0)) :: (X ++ L)))) R5 RW A5 AW n c5 cw K0 HR5.out HW.out.row HS.out.kl (by have := HW.out.nle; have := HW.out.hN; omega) (HO.out.rep (L' := R5 ++ (RW ++ ((gl, .cells #[.slice A n c, .pointer (some ⟨ga, 0, none⟩)] 140 (0, 0)) :: (ga, .cells #[.int .i64 (Z : Int), .slice (some ⟨gb, 0, none⟩) NN NN] 126 (0, 0)) :: (gb, .cells (u8s D.flatten) 5 (0, 0)) :: (RK ++ ((gw, .cells #[.slice AW n cw, .pointer (some ⟨gr, 0, none⟩)] 91 (0, 0)) :: (gr, .cells #[.int .i64 (Z : Int), .slice AS N cS] 129 (0, 0)) :: (X ++ L)))))) [] (by classical exact List.perm_iff_count.2 (fun a => by simp only [List.count_append, List.count_cons, List.count_nil, List.append_assoc, List.cons_append, List.nil_append]; ac_rfl)))).mono ?_
  rintro e wx ⟨rfl, hO_⟩
  refine ⟨_, rfl, ?_⟩
  have hO_ := hO_.rep (L' := ((gl, .cells #[.slice A n c, .pointer (some ⟨ga, 0, none⟩)] 140 (0, 0)) :: (ga, .cells #[.int .i64 (Z : Int), .slice (some ⟨gb, 0, none⟩) NN NN] 126 (0, 0)) :: (gb, .cells (u8s D.flatten) 5 (0, 0)) :: (RK ++ ((gw, .cells #[.slice AW n cw, .pointer (some ⟨gr, 0, none⟩)] 91 (0, 0)) :: (gr, .cells #[.int .i64 (Z : Int), .slice AS N cS] 129 (0, 0)) :: (RW ++ (X ++ L)))))) R5 (by classical exact List.perm_iff_count.2 (fun a => by simp only [List.count_append, List.count_cons, List.count_nil, List.append_assoc, List.cons_append, List.nil_append]; ac_rfl))
  clear HO; have HO := Aside0.mk hO_; clear hO_
  refine hK.out _ _ (HO.out.rep (L' := [(gw, .cells #[.slice AW n cw, .pointer (some ⟨gr, 0, none⟩)] 91 (0, 0))]) ((gl, .cells #[.slice A n c, .pointer (some ⟨ga, 0, none⟩)] 140 (0, 0)) :: (ga, .cells #[.int .i64 (Z : Int), .slice (some ⟨gb, 0, none⟩) NN NN] 126 (0, 0)) :: (gb, .cells (u8s D.flatten) 5 (0, 0)) :: (gr, .cells #[.int .i64 (Z : Int), .slice AS N cS] 129 (0, 0)) :: (RK ++ (RW ++ (X ++ (L))))) (by classical exact List.perm_iff_count.2 (fun a => by simp only [List.count_append, List.count_cons, List.count_nil, List.append_assoc, List.cons_append, List.nil_append]; ac_rfl))) (fun hHeld => ?_)
  clear hK K
  refine norm_ (a' := ?_) ?_ ?_
  rotate_left
  · show Act.put _ (some 20) _ = _
    simp only [Act.put, List.setIfInBounds_toArray, List.set_cons_zero, List.set_cons_succ, i64_w, i32_w]
    rfl
  refine Hp.pu_ 16 21 (Hp.up 30 17) ?_
  refine Hp.pu_ 17 22 (Hp.up 30 18) ?_
  refine Hp.pu_ 18 23 (Hp.up 30 19) ?_
  refine Hp.pu_ 21 26 #[true, true, true, true, true, true, true, true, true, true, true, true, true, true, true, true, true, true, true, false, false, true, false, false, false, false, false, false, false, false] ?_
  refine Hp.pu_ 22 27 #[true, true, true, true, true, true, true, true, true, true, true, true, true, true, true, true, true, true, true, false, false, true, true, false, false, false, false, false, false, false] ?_
  refine Hp.pu_ 23 28 #[true, true, true, true, true, true, true, true, true, true, true, true, true, true, true, true, true, true, true, false, false, true, true, true, false, false, false, false, false, false] ?_
  refine take_ (i := 24) (N := some 29) (v := .pointer (some ⟨gr, 0, none⟩)) (a' := ?_) #[true, true, true, true, true, true, true, true, true, true, true, true, true, true, true, true, true, true, true, false, false, true, true, true, true, false, false, false, false, false] rfl rfl (by kernel_rfl) (fun _ _ _ h => h) (own_yield1 (by rfl) (x := .tmp 28) rfl (by rfl) (.head) hupr (by rfl) (by rfl)) hHeld ?_ ?_
  rotate_left
  · simp only [Act.put, List.setIfInBounds_toArray, List.set_cons_zero, List.set_cons_succ, i64_w, i32_w]
    rfl
  refine one_ (i := 19) (N := some 24) #[true, true, true, true, true, true, true, true, true, true, true, true, true, true, true, true, true, true, true, true, false, true, true, true, true, false, false, false, false, false] rfl rfl (by kernel_rfl) (by decide) (fun K hK => ?_)
  refine goes_ Try.func39 (by kernel_rfl) rfl #[.pointer (some ⟨gl, 0, none⟩)] (by rfl) rfl rfl (by (try simp only [List.map_toArray, List.map_cons, List.map_nil]); first | done | rfl) ?_
  refine (lbytes2 w0 _ ((gw, .cells #[.slice AW n cw, .pointer (some ⟨gr, 0, none⟩)] 91 (0, 0)) :: (gr, .cells #[.int .i64 (Z : Int), .slice AS N cS] 129 (0, 0)) :: (RW ++ (X ++ L))) RK gl ga gb Z N NN A n c K0 D HN.out HS.out HO.out).mono ?_
  rintro e wx ⟨v6, rfl, R6, hR6, hO_⟩
  refine ⟨_, rfl, ?_⟩
  have HR6 := Aside0.mk hR6
  clear hR6
  clear HO; have HO := Aside0.mk hO_; clear hO_
  refine hK.out _ _ (HO.out.rep (L' := [(gw, .cells #[.slice AW n cw, .pointer (some ⟨gr, 0, none⟩)] 91 (0, 0))]) ((gl, .cells #[.slice A n c, .pointer (some ⟨ga, 0, none⟩)] 140 (0, 0)) :: (ga, .cells #[.int .i64 (Z : Int), .slice (some ⟨gb, 0, none⟩) NN NN] 126 (0, 0)) :: (gb, .cells (u8s D.flatten) 5 (0, 0)) :: (gr, .cells #[.int .i64 (Z : Int), .slice AS N cS] 129 (0, 0)) :: (RK ++ (RW ++ (X ++ (R6 ++ L))))) (by classical exact List.perm_iff_count.2 (fun a => by simp only [List.count_append, List.count_cons, List.count_nil, List.append_assoc, List.cons_append, List.nil_append]; ac_rfl))) (fun hHeld => ?_)
  clear hK K
  refine norm_ (a' := ?_) ?_ ?_
  rotate_left
  · show Act.put _ (some 24) _ = _
    simp only [Act.put, List.setIfInBounds_toArray, List.set_cons_zero, List.set_cons_succ, i64_w, i32_w]
    rfl
  refine join_ (σ := Value) 3 (Hp.up 30 27) (fun s_ => [(25, .string (strOfNums D.flatten)), (30, s_), (31, .string (strOfNums D.flatten))]) (fun s_ w' => Own w0 w' ((gl, .cells #[.slice A n c, .pointer (some ⟨ga, 0, none⟩)] 140 (0, 0)) :: (ga, .cells #[.int .i64 (Z : Int), .slice (some ⟨gb, 0, none⟩) NN NN] 126 (0, 0)) :: (gb, .cells (u8s D.flatten) 5 (0, 0)) :: (RK ++ ((gw, .cells #[.slice AW n cw, .pointer (some ⟨gr, 0, none⟩)] 91 (0, 0)) :: (gr, .cells #[.int .i64 (Z : Int), .slice AS N cS] 129 (0, 0)) :: (RW ++ (X ++ L)))))) ?_ ?_
  rotate_left
  · intro hCont
    refine two_ (i := 20) (j := 25) (Ni := some 25) (Nj := some 30) (Hp.up 30 25) #[true, true, true, true, true, true, true, true, true, true, true, true, true, true, true, true, true, true, true, true, false, true, true, true, true, true, false, false, false, false] rfl rfl rfl rfl (by kernel_rfl) (by decide) (by decide) (fun K hK => ?_) (fun K hK => ?_)
    · skip
      refine event_step (by rfl) (exec_conv rfl (by rfl) (RowOf.string (P := Try.prog) hul hu8 hus HR6.out HO.out)) ?_
      refine hK.out _ _ (HO.out.rep (L' := [(gw, .cells #[.slice AW n cw, .pointer (some ⟨gr, 0, none⟩)] 91 (0, 0))]) ((gl, .cells #[.slice A n c, .pointer (some ⟨ga, 0, none⟩)] 140 (0, 0)) :: (ga, .cells #[.int .i64 (Z : Int), .slice (some ⟨gb, 0, none⟩) NN NN] 126 (0, 0)) :: (gb, .cells (u8s D.flatten) 5 (0, 0)) :: (gr, .cells #[.int .i64 (Z : Int), .slice AS N cS] 129 (0, 0)) :: (RK ++ (RW ++ (X ++ (R6 ++ L))))) (by classical exact List.perm_iff_count.2 (fun a => by simp only [List.count_append, List.count_cons, List.count_nil, List.append_assoc, List.cons_append, List.nil_append]; ac_rfl))) (fun hHeld => ?_)
      clear hK K
      refine norm_ (a' := ?_) ?_ ?_
      rotate_left
      · show Act.put _ (some 25) _ = _
        simp only [Act.put, List.setIfInBounds_toArray, List.set_cons_zero, List.set_cons_succ, i64_w, i32_w]
        rfl
      refine one_ (i := 25) (N := some 30) (Hp.up 30 26) rfl rfl (by kernel_rfl) (by decide) (fun K hK => ?_)
      refine goes_ Try.func21 (by kernel_rfl) rfl #[.pointer (some ⟨gr, 0, none⟩)] (by rfl) rfl rfl (by (try simp only [List.map_toArray, List.map_cons, List.map_nil]); first | done | rfl) ?_
      refine (rbytes_calls w0 _ ((gl, .cells #[.slice A n c, .pointer (some ⟨ga, 0, none⟩)] 140 (0, 0)) :: (ga, .cells #[.int .i64 (Z : Int), .slice (some ⟨gb, 0, none⟩) NN NN] 126 (0, 0)) :: (gb, .cells (u8s D.flatten) 5 (0, 0)) :: (RK ++ ((gw, .cells #[.slice AW n cw, .pointer (some ⟨gr, 0, none⟩)] 91 (0, 0)) :: (RW ++ (R6 ++ L))))) X gr (Z : Int) Z N AS cS D HW.out.hN HW.out.hZ rfl HW.out.dl HW.out.refA (HO.out.rep (L' := (gr, .cells #[.int .i64 (Z : Int), .slice AS N cS] 129 (0, 0)) :: (X ++ ((gl, .cells #[.slice A n c, .pointer (some ⟨ga, 0, none⟩)] 140 (0, 0)) :: (ga, .cells #[.int .i64 (Z : Int), .slice (some ⟨gb, 0, none⟩) NN NN] 126 (0, 0)) :: (gb, .cells (u8s D.flatten) 5 (0, 0)) :: (RK ++ ((gw, .cells #[.slice AW n cw, .pointer (some ⟨gr, 0, none⟩)] 91 (0, 0)) :: (RW ++ (R6 ++ L))))))) [] (by classical exact List.perm_iff_count.2 (fun a => by simp only [List.count_append, List.count_cons, List.count_nil, List.append_assoc, List.cons_append, List.nil_append]; ac_rfl)))).mono ?_
      rintro e wx ⟨v7, rfl, R7, hR7, hO_⟩
      refine ⟨_, rfl, ?_⟩
      have HR7 := Aside0.mk hR7
      clear hR7
      clear HO; have HO := Aside0.mk hO_; clear hO_
      refine hK.out _ _ (HO.out.rep (L' := [(gw, .cells #[.slice AW n cw, .pointer (some ⟨gr, 0, none⟩)] 91 (0, 0))]) ((gl, .cells #[.slice A n c, .pointer (some ⟨ga, 0, none⟩)] 140 (0, 0)) :: (ga, .cells #[.int .i64 (Z : Int), .slice (some ⟨gb, 0, none⟩) NN NN] 126 (0, 0)) :: (gb, .cells (u8s D.flatten) 5 (0, 0)) :: (gr, .cells #[.int .i64 (Z : Int), .slice AS N cS] 129 (0, 0)) :: (RK ++ (RW ++ (X ++ (R7 ++ (R6 ++ L)))))) (by classical exact List.perm_iff_count.2 (fun a => by simp only [List.count_append, List.count_cons, List.count_nil, List.append_assoc, List.cons_append, List.nil_append]; ac_rfl))) (fun hHeld => ?_)
      clear hK K
      refine norm_ (a' := ?_) ?_ ?_
      rotate_left
      · show Act.put _ (some 30) _ = _
        simp only [Act.put, List.setIfInBounds_toArray, List.set_cons_zero, List.set_cons_succ, i64_w, i32_w]
        rfl
      refine one_ (i := 26) (N := some 31) (Hp.up 30 27) rfl rfl (by kernel_rfl) (by decide) (fun K hK => ?_)
      refine event_step (by rfl) (exec_conv rfl (by rfl) (RowOf.string (P := Try.prog) hul hu8 hus HR7.out (HO.out.rep (L' := R7 ++ ((gr, .cells #[.int .i64 (Z : Int), .slice AS N cS] 129 (0, 0)) :: (X ++ ((gl, .cells #[.slice A n c, .pointer (some ⟨ga, 0, none⟩)] 140 (0, 0)) :: (ga, .cells #[.int .i64 (Z : Int), .slice (some ⟨gb, 0, none⟩) NN NN] 126 (0, 0)) :: (gb, .cells (u8s D.flatten) 5 (0, 0)) :: (RK ++ ((gw, .cells #[.slice AW n cw, .pointer (some ⟨gr, 0, none⟩)] 91 (0, 0)) :: (RW ++ (R6 ++ L)))))))) [] (by classical exact List.perm_iff_count.2 (fun a => by simp only [List.count_append, List.count_cons, List.count_nil, List.append_assoc, List.cons_append, List.nil_append]; ac_rfl))))) ?_
      refine hK.out _ _ (HO.out.rep (L' := [(gw, .cells #[.slice AW n cw, .pointer (some ⟨gr, 0, none⟩)] 91 (0, 0))]) ((gl, .cells #[.slice A n c, .pointer (some ⟨ga, 0, none⟩)] 140 (0, 0)) :: (ga, .cells #[.int .i64 (Z : Int), .slice (some ⟨gb, 0, none⟩) NN NN] 126 (0, 0)) :: (gb, .cells (u8s D.flatten) 5 (0, 0)) :: (gr, .cells #[.int .i64 (Z : Int), .slice AS N cS] 129 (0, 0)) :: (RK ++ (RW ++ (X ++ (R7 ++ (R6 ++ L)))))) (by classical exact List.perm_iff_count.2 (fun a => by simp only [List.count_append, List.count_cons, List.count_nil, List.append_assoc, List.cons_append, List.nil_append]; ac_rfl))) (fun hHeld => ?_)
      clear hK K
      refine norm_ (a' := ?_) ?_ ?_
      rotate_left
      · show Act.put _ (some 31) _ = _
        simp only [Act.put, List.setIfInBounds_toArray, List.set_cons_zero, List.set_cons_succ, i64_w, i32_w]
        rfl
      exact norm_ (by simp only [putAll, Act.put, List.setIfInBounds_toArray, List.set_cons_zero, List.set_cons_succ]) (hCont v7 _ (HO.out.rep (L' := ((gl, .cells #[.slice A n c, .pointer (some ⟨ga, 0, none⟩)] 140 (0, 0)) :: (ga, .cells #[.int .i64 (Z : Int), .slice (some ⟨gb, 0, none⟩) NN NN] 126 (0, 0)) :: (gb, .cells (u8s D.flatten) 5 (0, 0)) :: (RK ++ ((gw, .cells #[.slice AW n cw, .pointer (some ⟨gr, 0, none⟩)] 91 (0, 0)) :: (gr, .cells #[.int .i64 (Z : Int), .slice AS N cS] 129 (0, 0)) :: (RW ++ (X ++ L)))))) (R7 ++ R6) (by classical exact List.perm_iff_count.2 (fun a => by simp only [List.count_append, List.count_cons, List.count_nil, List.append_assoc, List.cons_append, List.nil_append]; ac_rfl))))
    · skip
      refine goes_ Try.func21 (by kernel_rfl) rfl #[.pointer (some ⟨gr, 0, none⟩)] (by rfl) rfl rfl (by (try simp only [List.map_toArray, List.map_cons, List.map_nil]); first | done | rfl) ?_
      refine (rbytes_calls w0 _ ((gl, .cells #[.slice A n c, .pointer (some ⟨ga, 0, none⟩)] 140 (0, 0)) :: (ga, .cells #[.int .i64 (Z : Int), .slice (some ⟨gb, 0, none⟩) NN NN] 126 (0, 0)) :: (gb, .cells (u8s D.flatten) 5 (0, 0)) :: (RK ++ ((gw, .cells #[.slice AW n cw, .pointer (some ⟨gr, 0, none⟩)] 91 (0, 0)) :: (RW ++ (R6 ++ L))))) X gr (Z : Int) Z N AS cS D HW.out.hN HW.out.hZ rfl HW.out.dl HW.out.refA (HO.out.rep (L' := (gr, .cells #[.int .i64 (Z : Int), .slice AS N cS] 129 (0, 0)) :: (X ++ ((gl, .cells #[.slice A n c, .pointer (some ⟨ga, 0, none⟩)] 140 (0, 0)) :: (ga, .cells #[.int .i64 (Z : Int), .slice (some ⟨gb, 0, none⟩) NN NN] 126 (0, 0)) :: (gb, .cells (u8s D.flatten) 5 (0, 0)) :: (RK ++ ((gw, .cells #[.slice AW n cw, .pointer (some ⟨gr, 0, none⟩)] 91 (0, 0)) :: (RW ++ (R6 ++ L))))))) [] (by classical exact List.perm_iff_count.2 (fun a => by simp only [List.count_append, List.count_cons, List.count_nil, List.append_assoc, List.cons_append, List.nil_append]; ac_rfl)))).mono ?_
      rintro e wx ⟨v7, rfl, R7, hR7, hO_⟩
      refine ⟨_, rfl, ?_⟩
      have HR7 := Aside0.mk hR7
      clear hR7
      clear HO; have HO := Aside0.mk hO_; clear hO_
      refine hK.out _ _ (HO.out.rep (L' := [(gw, .cells #[.slice AW n cw, .pointer (some ⟨gr, 0, none⟩)] 91 (0, 0))]) ((gl, .cells #[.slice A n c, .pointer (some ⟨ga, 0, none⟩)] 140 (0, 0)) :: (ga, .cells #[.int .i64 (Z : Int), .slice (some ⟨gb, 0, none⟩) NN NN] 126 (0, 0)) :: (gb, .cells (u8s D.flatten) 5 (0, 0)) :: (gr, .cells #[.int .i64 (Z : Int), .slice AS N cS] 129 (0, 0)) :: (RK ++ (RW ++ (X ++ (R7 ++ (R6 ++ L)))))) (by classical exact List.perm_iff_count.2 (fun a => by simp only [List.count_append, List.count_cons, List.count_nil, List.append_assoc, List.cons_append, List.nil_append]; ac_rfl))) (fun hHeld => ?_)
      clear hK K
      refine norm_ (a' := ?_) ?_ ?_
      rotate_left
      · show Act.put _ (some 30) _ = _
        simp only [Act.put, List.setIfInBounds_toArray, List.set_cons_zero, List.set_cons_succ, i64_w, i32_w]
        rfl
      refine two_ (i := 20) (j := 26) (Ni := some 25) (Nj := some 31) (Hp.up 30 26) #[true, true, true, true, true, true, true, true, true, true, true, true, true, true, true, true, true, true, true, true, false, true, true, true, true, true, true, false, false, false] rfl rfl rfl rfl (by kernel_rfl) (by decide) (by decide) (fun K hK => ?_) (fun K hK => ?_)
      · skip
        refine event_step (by rfl) (exec_conv rfl (by rfl) (RowOf.string (P := Try.prog) hul hu8 hus HR6.out (HO.out.rep (L' := R6 ++ ((gr, .cells #[.int .i64 (Z : Int), .slice AS N cS] 129 (0, 0)) :: (X ++ (R7 ++ ((gl, .cells #[.slice A n c, .pointer (some ⟨ga, 0, none⟩)] 140 (0, 0)) :: (ga, .cells #[.int .i64 (Z : Int), .slice (some ⟨gb, 0, none⟩) NN NN] 126 (0, 0)) :: (gb, .cells (u8s D.flatten) 5 (0, 0)) :: (RK ++ ((gw, .cells #[.slice AW n cw, .pointer (some ⟨gr, 0, none⟩)] 91 (0, 0)) :: (RW ++ L)))))))) [] (by classical exact List.perm_iff_count.2 (fun a => by simp only [List.count_append, List.count_cons, List.count_nil, List.append_assoc, List.cons_append, List.nil_append]; ac_rfl))))) ?_
        refine hK.out _ _ (HO.out.rep (L' := [(gw, .cells #[.slice AW n cw, .pointer (some ⟨gr, 0, none⟩)] 91 (0, 0))]) ((gl, .cells #[.slice A n c, .pointer (some ⟨ga, 0, none⟩)] 140 (0, 0)) :: (ga, .cells #[.int .i64 (Z : Int), .slice (some ⟨gb, 0, none⟩) NN NN] 126 (0, 0)) :: (gb, .cells (u8s D.flatten) 5 (0, 0)) :: (gr, .cells #[.int .i64 (Z : Int), .slice AS N cS] 129 (0, 0)) :: (RK ++ (RW ++ (X ++ (R7 ++ (R6 ++ L)))))) (by classical exact List.perm_iff_count.2 (fun a => by simp only [List.count_append, List.count_cons, List.count_nil, List.append_assoc, List.cons_append, List.nil_append]; ac_rfl))) (fun hHeld => ?_)
        clear hK K
        refine norm_ (a' := ?_) ?_ ?_
        rotate_left
        · show Act.put _ (some 25) _ = _
          simp only [Act.put, List.setIfInBounds_toArray, List.set_cons_zero, List.set_cons_succ, i64_w, i32_w]
          rfl
        refine one_ (i := 26) (N := some 31) (Hp.up 30 27) rfl rfl (by kernel_rfl) (by decide) (fun K hK => ?_)
        refine event_step (by rfl) (exec_conv rfl (by rfl) (RowOf.string (P := Try.prog) hul hu8 hus HR7.out (HO.out.rep (L' := R7 ++ ((gr, .cells #[.int .i64 (Z : Int), .slice AS N cS] 129 (0, 0)) :: (X ++ ((gl, .cells #[.slice A n c, .pointer (some ⟨ga, 0, none⟩)] 140 (0, 0)) :: (ga, .cells #[.int .i64 (Z : Int), .slice (some ⟨gb, 0, none⟩) NN NN] 126 (0, 0)) :: (gb, .cells (u8s D.flatten) 5 (0, 0)) :: (RK ++ ((gw, .cells #[.slice AW n cw, .pointer (some ⟨gr, 0, none⟩)] 91 (0, 0)) :: (RW ++ (R6 ++ L)))))))) [] (by classical exact List.perm_iff_count.2 (fun a => by simp only [List.count_append, List.count_cons, List.count_nil, List.append_assoc, List.cons_append, List.nil_append]; ac_rfl))))) ?_
        refine hK.out _ _ (HO.out.rep (L' := [(gw, .cells #[.slice AW n cw, .pointer (some ⟨gr, 0, none⟩)] 91 (0, 0))]) ((gl, .cells #[.slice A n c, .pointer (some ⟨ga, 0, none⟩)] 140 (0, 0)) :: (ga, .cells #[.int .i64 (Z : Int), .slice (some ⟨gb, 0, none⟩) NN NN] 126 (0, 0)) :: (gb, .cells (u8s D.flatten) 5 (0, 0)) :: (gr, .cells #[.int .i64 (Z : Int), .slice AS N cS] 129 (0, 0)) :: (RK ++ (RW ++ (X ++ (R7 ++ (R6 ++ L)))))) (by classical exact List.perm_iff_count.2 (fun a => by simp only [List.count_append, List.count_cons, List.count_nil, List.append_assoc, List.cons_append, List.nil_append]; ac_rfl))) (fun hHeld => ?_)
        clear hK K
        refine norm_ (a' := ?_) ?_ ?_
        rotate_left
        · show Act.put _ (some 31) _ = _
          simp only [Act.put, List.setIfInBounds_toArray, List.set_cons_zero, List.set_cons_succ, i64_w, i32_w]
          rfl
        exact norm_ (by simp only [putAll, Act.put, List.setIfInBounds_toArray, List.set_cons_zero, List.set_cons_succ]) (hCont v7 _ (HO.out.rep (L' := ((gl, .cells #[.slice A n c, .pointer (some ⟨ga, 0, none⟩)] 140 (0, 0)) :: (ga, .cells #[.int .i64 (Z : Int), .slice (some ⟨gb, 0, none⟩) NN NN] 126 (0, 0)) :: (gb, .cells (u8s D.flatten) 5 (0, 0)) :: (RK ++ ((gw, .cells #[.slice AW n cw, .pointer (some ⟨gr, 0, none⟩)] 91 (0, 0)) :: (gr, .cells #[.int .i64 (Z : Int), .slice AS N cS] 129 (0, 0)) :: (RW ++ (X ++ L)))))) (R7 ++ R6) (by classical exact List.perm_iff_count.2 (fun a => by simp only [List.count_append, List.count_cons, List.count_nil, List.append_assoc, List.cons_append, List.nil_append]; ac_rfl))))
      · skip
        refine event_step (by rfl) (exec_conv rfl (by rfl) (RowOf.string (P := Try.prog) hul hu8 hus HR7.out (HO.out.rep (L' := R7 ++ ((gr, .cells #[.int .i64 (Z : Int), .slice AS N cS] 129 (0, 0)) :: (X ++ ((gl, .cells #[.slice A n c, .pointer (some ⟨ga, 0, none⟩)] 140 (0, 0)) :: (ga, .cells #[.int .i64 (Z : Int), .slice (some ⟨gb, 0, none⟩) NN NN] 126 (0, 0)) :: (gb, .cells (u8s D.flatten) 5 (0, 0)) :: (RK ++ ((gw, .cells #[.slice AW n cw, .pointer (some ⟨gr, 0, none⟩)] 91 (0, 0)) :: (RW ++ (R6 ++ L)))))))) [] (by classical exact List.perm_iff_count.2 (fun a => by simp only [List.count_append, List.count_cons, List.count_nil, List.append_assoc, List.cons_append, List.nil_append]; ac_rfl))))) ?_
        refine hK.out _ _ (HO.out.rep (L' := [(gw, .cells #[.slice AW n cw, .pointer (some ⟨gr, 0, none⟩)] 91 (0, 0))]) ((gl, .cells #[.slice A n c, .pointer (some ⟨ga, 0, none⟩)] 140 (0, 0)) :: (ga, .cells #[.int .i64 (Z : Int), .slice (some ⟨gb, 0, none⟩) NN NN] 126 (0, 0)) :: (gb, .cells (u8s D.flatten) 5 (0, 0)) :: (gr, .cells #[.int .i64 (Z : Int), .slice AS N cS] 129 (0, 0)) :: (RK ++ (RW ++ (X ++ (R7 ++ (R6 ++ L)))))) (by classical exact List.perm_iff_count.2 (fun a => by simp only [List.count_append, List.count_cons, List.count_nil, List.append_assoc, List.cons_append, List.nil_append]; ac_rfl))) (fun hHeld => ?_)
        clear hK K
        refine norm_ (a' := ?_) ?_ ?_
        rotate_left
        · show Act.put _ (some 31) _ = _
          simp only [Act.put, List.setIfInBounds_toArray, List.set_cons_zero, List.set_cons_succ, i64_w, i32_w]
          rfl
        refine one_ (i := 20) (N := some 25) (Hp.up 30 27) rfl rfl (by kernel_rfl) (by decide) (fun K hK => ?_)
        refine event_step (by rfl) (exec_conv rfl (by rfl) (RowOf.string (P := Try.prog) hul hu8 hus HR6.out (HO.out.rep (L' := R6 ++ ((gr, .cells #[.int .i64 (Z : Int), .slice AS N cS] 129 (0, 0)) :: (X ++ (R7 ++ ((gl, .cells #[.slice A n c, .pointer (some ⟨ga, 0, none⟩)] 140 (0, 0)) :: (ga, .cells #[.int .i64 (Z : Int), .slice (some ⟨gb, 0, none⟩) NN NN] 126 (0, 0)) :: (gb, .cells (u8s D.flatten) 5 (0, 0)) :: (RK ++ ((gw, .cells #[.slice AW n cw, .pointer (some ⟨gr, 0, none⟩)] 91 (0, 0)) :: (RW ++ L)))))))) [] (by classical exact List.perm_iff_count.2 (fun a => by simp only [List.count_append, List.count_cons, List.count_nil, List.append_assoc, List.cons_append, List.nil_append]; ac_rfl))))) ?_
        refine hK.out _ _ (HO.out.rep (L' := [(gw, .cells #[.slice AW n cw, .pointer (some ⟨gr, 0, none⟩)] 91 (0, 0))]) ((gl, .cells #[.slice A n c, .pointer (some ⟨ga, 0, none⟩)] 140 (0, 0)) :: (ga, .cells #[.int .i64 (Z : Int), .slice (some ⟨gb, 0, none⟩) NN NN] 126 (0, 0)) :: (gb, .cells (u8s D.flatten) 5 (0, 0)) :: (gr, .cells #[.int .i64 (Z : Int), .slice AS N cS] 129 (0, 0)) :: (RK ++ (RW ++ (X ++ (R7 ++ (R6 ++ L)))))) (by classical exact List.perm_iff_count.2 (fun a => by simp only [List.count_append, List.count_cons, List.count_nil, List.append_assoc, List.cons_append, List.nil_append]; ac_rfl))) (fun hHeld => ?_)
        clear hK K
        refine norm_ (a' := ?_) ?_ ?_
        rotate_left
        · show Act.put _ (some 25) _ = _
          simp only [Act.put, List.setIfInBounds_toArray, List.set_cons_zero, List.set_cons_succ, i64_w, i32_w]
          rfl
        exact norm_ (by simp only [putAll, Act.put, List.setIfInBounds_toArray, List.set_cons_zero, List.set_cons_succ]) (hCont v7 _ (HO.out.rep (L' := ((gl, .cells #[.slice A n c, .pointer (some ⟨ga, 0, none⟩)] 140 (0, 0)) :: (ga, .cells #[.int .i64 (Z : Int), .slice (some ⟨gb, 0, none⟩) NN NN] 126 (0, 0)) :: (gb, .cells (u8s D.flatten) 5 (0, 0)) :: (RK ++ ((gw, .cells #[.slice AW n cw, .pointer (some ⟨gr, 0, none⟩)] 91 (0, 0)) :: (gr, .cells #[.int .i64 (Z : Int), .slice AS N cS] 129 (0, 0)) :: (RW ++ (X ++ L)))))) (R7 ++ R6) (by classical exact List.perm_iff_count.2 (fun a => by simp only [List.count_append, List.count_cons, List.count_nil, List.append_assoc, List.cons_append, List.nil_append]; ac_rfl))))
  rintro v7 wj hO_
  clear HO
  have HO := Aside0.mk hO_
  have hHeld := HO.out.rep (L' := [(gw, .cells #[.slice AW n cw, .pointer (some ⟨gr, 0, none⟩)] 91 (0, 0))]) ((gl, .cells #[.slice A n c, .pointer (some ⟨ga, 0, none⟩)] 140 (0, 0)) :: (ga, .cells #[.int .i64 (Z : Int), .slice (some ⟨gb, 0, none⟩) NN NN] 126 (0, 0)) :: (gb, .cells (u8s D.flatten) 5 (0, 0)) :: (gr, .cells #[.int .i64 (Z : Int), .slice AS N cS] 129 (0, 0)) :: (RK ++ (RW ++ (X ++ (L))))) (by classical exact List.perm_iff_count.2 (fun a => by simp only [List.count_append, List.count_cons, List.count_nil, List.append_assoc, List.cons_append, List.nil_append]; ac_rfl))
  clear hO_
  refine norm_ (a' := ?_) ?_ ?_
  rotate_left
  · simp only [putAll, Act.put, List.setIfInBounds_toArray, List.set_cons_zero, List.set_cons_succ]
    rfl
  refine Hp.pu_ 27 32 (Hp.up 30 28) ?_
  refine Hp.pu_ 28 33 (Hp.up 30 29) ?_
  refine Hp.pu_ 29 4 (Hp.up 30 30) ?_
  refine done_ (by kernel_rfl) ?_
  clear hHeld
  go_wp2
  go_ret
  exact ⟨rfl, HO.out⟩
end Go.Proofs.Lc
