/- Functions of the program that some laws reach, as Lean functions, and proofs that the program's calls come to what they say: written by a program, for the texts that import it; each theorem bears its own conditions. -/
import Derived.Test.YtgkdbhkbkpfbpaaPLocalFillsx0
namespace Go.Proofs.Ytgkdbhkbkpfbpaa.PLocalFills
open Go.RowKit Go.Proofs.YtgkdbhkbkpfbpaaW.PrintWords Go.Proofs.YtgkdbhkbkpfbpaaW.PrintLast Go.Proofs.YtgkdbhkbkpfbpaaW.PrintMore
attribute [local go_sem] max2_int min2_int max_two min_two max_three min_three max_four min_four   -- for this text's walks alone
set_option linter.unusedVariables false
set_option linter.unusedSimpArgs false

/-! ### halberdlaw12_LocalFills: function 7 -/
open Go.Proofs.Hp Go.Proofs.Ev Go.Proofs.Ar Go.Proofs.Lc
attribute [local go_sem] eql_slice_nil
theorem dshift_len : ∀ (m i : Nat) (D : List (List Int)), (dshift m i D).length = D.length
  | 0, _, _ => rfl
  | m + 1, i, D => by unfold dshift; rw [dshift_len m, List.length_set]
theorem dshift_get : ∀ (m i : Nat) (D : List (List Int)) (j : Nat), i + m < D.length → (dshift m i D).getD j [] = if i ≤ j ∧ j < i + m then D.getD (j + 1) [] else D.getD j []
  | 0, i, D, j, h => by rw [if_neg (by omega)]; rfl
  | m + 1, i, D, j, h => by
    unfold dshift
    rw [dshift_get m (i + 1) _ j (by rw [List.length_set]; omega)]
    have hs : ∀ q, q ≠ i → (D.set i (D.getD (i + 1) [])).getD q [] = D.getD q [] := fun q hq => by
      rw [List.getD_eq_getElem?_getD, List.getElem?_set_ne (by omega), ← List.getD_eq_getElem?_getD]
    by_cases h1 : i + 1 ≤ j ∧ j < i + 1 + m
    · rw [if_pos h1, if_pos (by omega), hs _ (by omega)]
    · rw [if_neg h1]
      by_cases h2 : j = i
      · subst h2
        rw [if_pos (by omega), List.getD_eq_getElem?_getD, List.getElem?_set_self (by omega)]
        rfl
      · rw [if_neg (by omega), hs _ h2]
/-- The keys that got slots so far. -/
def keysTo (i : Nat) : List (Int × Int) := (List.range i).map fun (j : Nat) => (100 + (j : Int), (1 : Int))
theorem keysTo_succ (i : Nat) : keysTo (i + 1) = keysTo i ++ [(100 + (i : Int), 1)] := by simp [keysTo, List.range_succ]
theorem keysTo_len (i : Nat) : (keysTo i).length = i := by simp [keysTo]
theorem kfind_none (x : Int × Int) : ∀ (K : List (Int × Int)) (i : Nat), (∀ k ∈ K, k ≠ x) → kfind x K i = -1
  | [], _, _ => by simp only [kfind]
  | k :: K, i, h => by
    unfold kfind
    rw [if_neg (h k (List.mem_cons_self ..))]
    exact kfind_none x K (i + 1) fun y hy => h y (List.mem_cons_of_mem _ hy)
theorem kfind_app (x : Int × Int) (K' : List (Int × Int)) : ∀ (K : List (Int × Int)) (i : Nat), (∀ k ∈ K, k ≠ x) → kfind x (K ++ x :: K') i = ((i + K.length : Nat) : Int)
  | [], i, _ => by simp [kfind]
  | k :: K, i, h => by
    rw [List.cons_append]
    unfold kfind
    rw [if_neg (h k (List.mem_cons_self ..)), kfind_app x K' K (i + 1) fun y hy => h y (List.mem_cons_of_mem _ hy)]
    congr 1
    simp only [List.length_cons]; omega
theorem keysTo_mem {i : Nat} {k : Int × Int} (h : k ∈ keysTo i) : ∃ j, j < i ∧ k = (100 + (j : Int), 1) := by
  simp only [keysTo, List.mem_map, List.mem_range] at h
  obtain ⟨j, h1, h2⟩ := h
  exact ⟨j, h1, h2.symm⟩
theorem keysTo_new (i : Nat) : kfind (100 + (i : Int), 1) (keysTo i) 0 = -1 := kfind_none _ _ _ fun k hk h => by
  obtain ⟨j, h1, h2⟩ := keysTo_mem hk
  rw [h2, Prod.mk.injEq] at h
  omega
theorem keysTo_no (K : List (Int × Int)) (h : ∀ k ∈ K, ∃ j : Nat, k = (100 + (j : Int), 1)) : kfind (1, 0) K 0 = -1 := kfind_none _ _ _ fun k hk h' => by
  obtain ⟨j, h2⟩ := h k hk
  rw [h2, Prod.mk.injEq] at h'
  omega
theorem keysTo_split (i g : Nat) (h : g < i) : ∃ K', keysTo i = keysTo g ++ (100 + (g : Int), 1) :: K' := by
  refine ⟨(keysTo i).drop (g + 1), ?_⟩
  have h1 : keysTo g = (keysTo i).take g := by simp [keysTo, ← List.map_take, List.take_range, Nat.min_eq_left (Nat.le_of_lt h)]
  have h2 : (keysTo i)[g]'(by rw [keysTo_len]; exact h) = (100 + (g : Int), 1) := by simp [keysTo]
  rw [h1, ← h2, ← List.drop_eq_getElem_cons, List.take_append_drop]
theorem keysTo_has (i g : Nat) (h : g < i) : kfind (100 + (g : Int), 1) (keysTo i) 0 = (g : Int) := by
  obtain ⟨K', hK⟩ := keysTo_split i g h
  rw [hK, kfind_app]
  · rw [keysTo_len, Nat.zero_add]
  · intro k hk h'
    obtain ⟨j, h1, h2⟩ := keysTo_mem hk
    rw [h2, Prod.mk.injEq] at h'
    omega
/-- The slots' first bytes while they are filled. -/
def Filled (D : List (List Int)) (N i : Nat) : Prop := ∀ j, j < N → (D.getD j [])[0]? = some (if j < i then 1 + (j : Int) else 0)
theorem Filled.start {N Z : Nat} (hZ : Z = 1) : Filled (List.replicate N (List.replicate Z 0)) N 0 := fun j hj => by
  subst hZ
  rw [if_neg (Nat.not_lt_zero _), List.getD_eq_getElem?_getD, List.getElem?_replicate, if_pos hj]
  rfl
theorem getD_set (D : List (List Int)) (k j : Nat) (d : List Int) (hk : k < D.length) : (D.set k d).getD j [] = if k = j then d else D.getD j [] := by
  split
  · rename_i h
    subst h
    rw [List.getD_eq_getElem?_getD, List.getElem?_set_self hk]
    rfl
  · rename_i h
    rw [List.getD_eq_getElem?_getD, List.getElem?_set_ne h, ← List.getD_eq_getElem?_getD]
theorem Filled.step {D D2 D3 : List (List Int)} {N Z i : Nat} (h : Filled D N i) (hD : D.length = N) (hi : i < N) (hZ : Z = 1) (h2 : D2 = D.set i (List.replicate Z 0)) (h3 : D3 = D2.set i ((D2.getD i []).set 0 (1 + (i : Int)))) : Filled D3 N (i + 1) := fun j hj => by
  subst hZ
  have hl : i < D2.length := by rw [h2, List.length_set, hD]; exact hi
  rw [h3, getD_set _ _ _ _ hl]
  by_cases e : i = j
  · subst e
    rw [if_pos rfl, h2, getD_set _ _ _ _ (by rw [hD]; exact hi), if_pos rfl, if_pos (by omega)]
    rfl
  · rw [if_neg e, h2, getD_set _ _ _ _ (by rw [hD]; exact hi), if_neg e, h j hj]
    by_cases h4 : j < i
    · rw [if_pos h4, if_pos (by omega)]
    · rw [if_neg h4, if_neg (by omega)]
/-- ... and when one is dropped and its room given to another. -/
theorem Filled.drop {D D4 D5 : List (List Int)} {N n1 Z g : Nat} (h : Filled D N N) (hD : D.length = N) (hn : n1 + 1 = N) (hg : g < N) (hZ : Z = 1) (h4 : D4 = (dshift (n1 - g) g D).set n1 (List.replicate Z 0)) (h5 : D5 = D4.set n1 (List.replicate Z 0)) :
    (D5.getD n1 [])[0]? = some 0 ∧ ∀ j, j < n1 → (D5.getD j [])[0]? = some (if j < g then 1 + (j : Int) else 2 + (j : Int)) := by
  subst hZ
  have l4 : D4.length = N := by rw [h4, List.length_set, dshift_len, hD]
  refine ⟨?_, fun j hj => ?_⟩
  · rw [h5, getD_set _ _ _ _ (by rw [l4]; omega), if_pos rfl]
    rfl
  · rw [h5, getD_set _ _ _ _ (by rw [l4]; omega), if_neg (by omega), h4, getD_set _ _ _ _ (by rw [dshift_len, hD]; omega), if_neg (by omega), dshift_get _ _ _ _ (by rw [hD]; omega)]
    by_cases h6 : j < g
    · rw [if_neg (by omega), if_pos h6, h j (by omega), if_pos (by omega)]
    · rw [if_pos (by omega), if_neg h6, h (j + 1) (by omega), if_pos (by omega)]
      congr 1
      omega
theorem w_of {x y : Int} (h : x = y) (hb : -1000 ≤ y ∧ y ≤ 1000) : Aside0 (IntKind.i64.wrap x = y ∧ wrap64 x = y) := by
  subst h
  have h1 : IntKind.i64.wrap x = x := IntWalk.i64_in _ (by omega)
  exact ⟨h1, (i64_w _).symm.trans h1⟩
theorem flat1 {D : List (List Int)} {Z j : Nat} {x : Int} (hZ : Z = 1) (h : ∀ d ∈ D, d.length = Z) (hj : j < D.length) (hx : (D.getD j [])[0]? = some x) : (D.flatten.map (Value.int .u8))[j]? = some (.int .u8 x) := by
  subst hZ
  have := flat_at D 1 h j 0 hj (by decide)
  rw [Nat.mul_one, Nat.add_zero, hx] at this
  rw [List.getElem?_map, this]
  rfl
set_option maxHeartbeats 8000000 in
set_option maxRecDepth 100000 in
theorem lbytes (w0 w : World) (L RK : Hl) (gl ga gb Z N NN : Nat) (A : Option Addr) (n c : Nat) (K : List (Int × Int)) (D : List (List Int)) (hN : LNum Z N NN) (hS : LSt Z N RK A n c K D) (hO : Own w0 w ((gl, .cells #[.slice A n c, .pointer (some ⟨ga, 0, none⟩)] 140 (0, 0)) :: (ga, .cells #[.int .i64 (Z : Int), .slice (some ⟨gb, 0, none⟩) NN NN] 126 (0, 0)) :: (gb, .cells (u8s D.flatten) 5 (0, 0)) :: (RK ++ L))) :
    Calls Try.prog 39 #[.pointer (some ⟨gl, 0, none⟩)] w fun e w' => ∃ v', e = .returned v' ∧ ∃ R', RowOf 5 1 R' v' NN (D.flatten.map (Value.int .u8)) ∧ Own w0 w' (R' ++ ((gl, .cells #[.slice A n c, .pointer (some ⟨ga, 0, none⟩)] 140 (0, 0)) :: (ga, .cells #[.int .i64 (Z : Int), .slice (some ⟨gb, 0, none⟩) NN NN] 126 (0, 0)) :: (gb, .cells (u8s D.flatten) 5 (0, 0)) :: (RK ++ L))) := by
  have hui := Try.underlying3
  have hul := Try.underlying32
  have huk := Try.underlying54
  have huks := Try.underlying89
  have hup := Try.underlying24
  have HO : Aside0 (Own w0 w ((gl, .cells #[.slice A n c, .pointer (some ⟨ga, 0, none⟩)] 140 (0, 0)) :: (ga, .cells #[.int .i64 (Z : Int), .slice (some ⟨gb, 0, none⟩) NN NN] 126 (0, 0)) :: (gb, .cells (u8s D.flatten) 5 (0, 0)) :: (RK ++ L))) := ⟨hO⟩
  have HN := Aside0.mk hN
  have HS := Aside0.mk hS
  clear hO hN hS
  go_enter Try.func39, Try.ntmps39
  go_wp2_with (first | ((with_reducible refine gate_dst (N := 8) rfl ?_); refine own_load HO.out rfl (x := .tmp 7) (v := .pointer (some ⟨ga, 0, none⟩)) rfl (by rfl) (by (repeat (first | exact .head | apply Ext.tail))) hup (by rfl) (by rfl) ?_) | ((with_reducible refine gate_callee (f := 18) rfl ?_); (with_reducible refine gate_dst (N := 9) rfl ?_); refine goesL_ (some 9) rfl rfl Try.func18 (by kernel_rfl) rfl #[.pointer (some ⟨ga, 0, none⟩)] rfl (by (try simp only [List.map_toArray, List.map_cons, List.map_nil]); first | done | rfl) ?_; (with_reducible refine (bytes_calls w0 _ ((gl, .cells #[.slice A n c, .pointer (some ⟨ga, 0, none⟩)] 140 (0, 0)) :: (RK ++ L)) ga gb (Z : Int) NN D.flatten (HS.out.fl HN.out) HN.out.hm HO.out.toA).mono ?_); rintro e wx ⟨v2, rfl, R2, hR2, hO_⟩; refine ⟨_, rfl, ?_⟩; obtain ⟨A2, c2, rfl⟩ := RowOf.shape hR2; have HR2 := Aside0.mk hR2; clear hR2; have hO_ := Own.swapfour (S := R2) (B := [(ga, .cells #[.int .i64 (Z : Int), .slice (some ⟨gb, 0, none⟩) NN NN] 126 (0, 0)), (gb, .cells (u8s D.flatten) 5 (0, 0))]) (R := [(gl, .cells #[.slice A n c, .pointer (some ⟨ga, 0, none⟩)] 140 (0, 0))]) (L := RK ++ L) hO_; clear HO; have HO := Aside0.mk hO_; clear hO_))
  go_ret
  exact ⟨_, rfl, R2, HR2.out, HO.out⟩
set_option maxHeartbeats 8000000 in
set_option maxRecDepth 100000 in
theorem fills_ok (w : World) (a0 a1 : Int) (m N n1 g NN Z : Nat) (hm : a0.tmod 16 = (m : Int)) (hmN : m + 1 = N) (hN16 : N ≤ 16) (hg : a1.tmod (N : Int) = (g : Int)) (hgN : g < N) (ha0 : 0 ≤ a0 ∧ a0 < 256) (ha1 : 0 ≤ a1 ∧ a1 < 256) (hn1 : n1 + 1 = N) (hZ : Z = 1) (hNN : NN = N * Z) :
    Calls Try.prog 7 #[.int .u8 a0, .int .u8 a1] w fun e w' => e = .returned (.bool true) ∧ Below w.heap.size w w' := by
  have hui := Try.underlying3
  have hul := Try.underlying32
  have huk := Try.underlying54
  have huks := Try.underlying89
  have hub := Try.underlying5
  have HN : Aside0 (LNum Z N NN) := ⟨by subst hNN; exact LNum.of (by omega) (by omega)⟩
  have HZ := Aside0.mk hZ
  have HZ1 : Aside0 ((1 : Int) = (Z : Int)) := ⟨by omega⟩
  have HNN : Aside0 (0 < NN) := ⟨by rw [hNN, hZ]; omega⟩
  have HNNN : Aside0 (NN = N) := ⟨by rw [hNN, hZ, Nat.mul_one]⟩
  have HN1 := Aside0.mk hn1
  have HG := Aside0.mk hgN
  have HNB := Aside0.mk hN16
  have HM_ := Aside0.mk hm
  have HG_ := Aside0.mk hg
  clear hm hg hNN hZ
  have HV1 : Aside0 (IntKind.u8.wrap (m : Int) = (m : Int)) := ⟨IntWalk.u8_in _ (by omega)⟩
  have Wv2 := w_of (x := (m : Int)) (y := (m : Int)) (by omega) (by omega)
  have Wv3 := w_of (x := ((m : Int) + 1)) (y := (N : Int)) (by omega) (by omega)
  have Wv4 := w_of (x := a1) (y := a1) (by omega) (by omega)
  have Wv5 := w_of (x := (g : Int)) (y := (g : Int)) (by omega) (by omega)
  have Wv6 := w_of (x := ((N : Int) - 1)) (y := (n1 : Int)) (by omega) (by omega)
  obtain ⟨q2, hq2⟩ : ∃ q2 : Int, q2 = 100 + (g : Int) := ⟨_, rfl⟩
  have HQ2 := Aside0.mk hq2
  have Wv7 := w_of (x := (100 + (g : Int))) (y := q2) (by omega) (by omega)
  have z1 : ((N : Int) = 0) = False := eq_false (by omega)
  have z2 : ((N : Int) == 0) = false := beq_eq_false_iff_ne.mpr (by omega)
  have z3 : (N = 0) = False := eq_false (by omega)
  have z4 : (N == 0) = false := beq_eq_false_iff_ne.mpr (by omega)
  have y1 : (0 < Z) = True := eq_true (by rw [HZ.out]; decide)
  have y2 : ((0 : Int) < (Z : Int)) = True := eq_true (by rw [HZ.out]; decide)
  have y3 : (n1 < NN) = True := eq_true (by rw [HNNN.out]; omega)
  have y4 : ((n1 : Int) < (NN : Int)) = True := eq_true (by rw [HNNN.out]; omega)
  have y5 : (0 ≤ (n1 : Int)) = True := eq_true (by omega)
  have HO := Aside0.mk (Own.refl w)
  clear hmN hN16 hgN ha0 ha1 hn1 hq2
  have hm := HM_.out
  have hg := HG_.out
  clear HM_ HG_
  have v1 := HV1.out
  have v2 := Wv2.out.1
  have v2b := Wv2.out.2
  have v3 := Wv3.out.1
  have v3b := Wv3.out.2
  have v4 := Wv4.out.1
  have v4b := Wv4.out.2
  have v5 := Wv5.out.1
  have v5b := Wv5.out.2
  have v6 := Wv6.out.1
  have v6b := Wv6.out.2
  have v7 := Wv7.out.1
  have v7b := Wv7.out.2
  go_enter Try.func7, Try.ntmps7
  go_wp2_with (first | ((with_reducible refine gate_callee (f := 33) rfl ?_); (with_reducible refine gate_dst (N := 21) rfl ?_); refine goesL_ (some 21) rfl rfl Try.func33 (by kernel_rfl) rfl #[] rfl (by (try simp only [List.map_toArray, List.map_cons, List.map_nil]); first | done | rfl) ?_; (with_reducible refine (local_alive w _ [] HO.out).mono ?_); rintro e wx ⟨rfl, L', hO_⟩; refine ⟨_, rfl, ?_⟩; have hO_ := hO_.tailR; clear HO; have HO := Aside0.mk hO_; clear hO_) | ((with_reducible refine gate_callee (f := 34) rfl ?_); (with_reducible refine gate_dst (N := 29) rfl ?_); refine goesL_ (some 29) rfl rfl Try.func34 (by kernel_rfl) rfl #[.int .i64 1, .int .i64 (N : Int)] rfl (by (try simp only [List.map_toArray, List.map_cons, List.map_nil]); first | done | rfl) ?_; (with_reducible refine (lnew_ok w _ [] 1 (N : Int) Z N NN HZ1.out rfl HN.out HO.out).mono ?_); rintro e wx ⟨gl, rfl, ga, gb, R0, A0, n0, c0, K0, D0, hK0, hn0, hD0, hS0, hO_⟩; refine ⟨_, rfl, ?_⟩; obtain rfl : (0 : Nat) = n0 := hn0.symm; have HK0 := Aside0.mk hK0; have HD0 := Aside0.mk hD0; have HS0 := Aside0.mk hS0; clear hK0 hD0 hS0; clear HO; have HO := Aside0.mk hO_; clear hO_))
  clear v1 hm v2 v2b v3 v3b
  go_loopg [8] N (fun gk v8 w' => ∃ i : Nat, v8 = .int .i64 (i : Int) ∧ Aside0 (i + gk = N) ∧ ∃ R A c K D, Aside0 (K = keysTo i) ∧ Aside0 (Filled D N i) ∧ Aside0 (LSt Z N R A i c K D) ∧ Aside0 (Own w w' ((gl, .cells #[.slice A i c, .pointer (some ⟨ga, 0, none⟩)] 140 (0, 0)) :: (ga, .cells #[.int .i64 (Z : Int), .slice (some ⟨gb, 0, none⟩) NN NN] 126 (0, 0)) :: (gb, .cells (u8s D.flatten) 5 (0, 0)) :: (R ++ ([] : Hl)))))
  case atStart => exact ⟨0, rfl, ⟨Nat.zero_add _⟩, R0, A0, c0, K0, D0, HK0, ⟨by rw [HD0.out]; exact Filled.start HZ.out⟩, HS0, HO⟩
  case round =>
    clear HO HS0 HD0 HK0
    obtain ⟨i, rfl, HI, R, A, c, K, D, HK, HF, HS, HO⟩ := hrel
    cases gk with
    | zero =>
      obtain rfl : N = i := by clear v4 v4b v5 v5b v6 v6b v7 v7b; have := HI.out; omega
      have c1 : decide ((N : Int) < (N : Int)) = false := decide_eq_false (Int.lt_irrefl _)
      have c1n : decide (N < N) = false := decide_eq_false (Nat.lt_irrefl _)
      go_wp2_with (first | ((with_reducible refine gate_callee (f := 35) rfl ?_); (with_reducible refine gate_dst (N := 76) rfl ?_); refine goesL_ (some 76) rfl rfl Try.func35 (by kernel_rfl) rfl #[.pointer (some ⟨gl, 0, none⟩), .agg #[.int .i64 1, .int .i64 0], .bool true] rfl (by (try simp only [List.map_toArray, List.map_cons, List.map_nil]); first | done | rfl) ?_; (with_reducible refine (get_full w _ [] R gl ga gb Z N NN A N c K D HN.out HS.out 1 0 (by rw [HK.out]; exact keysTo_no _ fun k hk => by obtain ⟨j, _, h2⟩ := keysTo_mem hk; exact ⟨j, h2⟩) rfl HO.out).mono ?_); rintro e wx ⟨rfl, hO_⟩; refine ⟨_, rfl, ?_⟩; clear HO; have HO := Aside0.mk hO_; clear hO_) | (go_at_call 37; refine (drop_has2 w _ [] R gl ga gb Z N NN A N c K D HN.out HS.out q2 1 g (g + 1) n1 (by rw [HK.out, HQ2.out]; exact keysTo_has N g HG.out) rfl HN1.out HO.out).mono ?_; rintro e wk ⟨rfl, R4, A4, n4, c4, K4, D4, hn4, hK4, hD4, hS4, hO_⟩; obtain rfl : n1 = n4 := hn4.symm; have HK4 := Aside0.mk hK4; have HS4 := Aside0.mk hS4; have HD4 := Aside0.mk hD4; clear hK4 hD4 hS4; clear HO; have HO := Aside0.mk hO_; clear hO_; dsimp only) | (go_at_call 38; refine (llen_calls w _ [] R4 gl ga gb Z N NN A4 n1 c4 K4 D4 HN.out HS4.out HO.out).mono ?_; rintro e wk ⟨rfl, hO_⟩; clear HO; have HO := Aside0.mk hO_; clear hO_; dsimp only) | ((with_reducible refine gate_callee (f := 35) rfl ?_); (with_reducible refine gate_dst (N := 103) rfl ?_); refine goesL_ (some 103) rfl rfl Try.func35 (by kernel_rfl) rfl #[.pointer (some ⟨gl, 0, none⟩), .agg #[.int .i64 1, .int .i64 0], .bool true] rfl (by (try simp only [List.map_toArray, List.map_cons, List.map_nil]); first | done | rfl) ?_; (with_reducible refine (get_new2 w _ [] R4 gl ga gb Z N NN A4 n1 c4 K4 D4 HN.out HS4.out 1 0 (by rw [HK4.out, HK.out]; exact keysTo_no _ (fun k hk => by have h1 := List.mem_of_mem_eraseIdx hk; obtain ⟨j, _, h2⟩ := keysTo_mem h1; exact ⟨j, h2⟩)) (by have := HN1.out; omega) HO.out).mono ?_); rintro e wx ⟨rfl, R5, A5, n5, c5, K5, D5, hn5, hK5, hD5, hS5, hO_⟩; refine ⟨_, rfl, ?_⟩; have HS5 := Aside0.mk hS5; (have HDR := Aside0.mk (Filled.drop HF.out HS.out.dl HN1.out HG.out HZ.out HD4.out hD5)); clear hK5 hD5 hS5 hn5; clear HO; have HO := Aside0.mk hO_; clear hO_) | ((with_reducible refine gate_callee (f := 39) rfl ?_); (with_reducible refine gate_dst (N := 107) rfl ?_); refine goesL_ (some 107) rfl rfl Try.func39 (by kernel_rfl) rfl #[.pointer (some ⟨gl, 0, none⟩)] rfl (by (try simp only [List.map_toArray, List.map_cons, List.map_nil]); first | done | rfl) ?_; (with_reducible refine (lbytes w _ [] R5 gl ga gb Z N NN A5 n5 c5 K5 D5 HN.out HS5.out HO.out).mono ?_); rintro e wx ⟨v7, rfl, R7, hR7, hO_⟩; refine ⟨_, rfl, ?_⟩; (obtain ⟨g7, cap7, hv7, _, _, _, _, hcell⟩ := hR7.cells hO_ HNN.out); subst hv7; clear hR7; (have HC : Aside0 (∀ j x, j < N → (D5.getD j [])[0]? = some x → World.cell? wx ⟨g7, j, none⟩ = some (.int .u8 x)) := ⟨fun j x hj hx => hcell j _ (flat1 HZ.out HS5.out.dz (by rw [HS5.out.dl]; exact hj) hx)⟩); clear hcell; have hce := HC.out n1 0 (by have := HN1.out; omega) HDR.out.1; clear HO; have HO := Aside0.mk hO_; clear hO_))
      clear hce
      have HOB : Aside0 (Below w.heap.size w wx) := ⟨HO.out.bel⟩
      clear HO
      go_loopg [19] n1 (fun gk v19 w' => ∃ i : Nat, v19 = .int .i64 (i : Int) ∧ Aside0 (i + gk = n1) ∧ Aside0 (∀ j x, j < N → (D5.getD j [])[0]? = some x → World.cell? w' ⟨g7, j, none⟩ = some (.int .u8 x)) ∧ Aside0 (Below w.heap.size w w'))
      case atStart => exact ⟨0, rfl, ⟨Nat.zero_add _⟩, HC, HOB⟩
      case round =>
        clear HOB HC
        obtain ⟨i, rfl, HI, HC, HOB⟩ := hrel
        clear z1 z2 z3 z4 y1 y2 y3 y4 y5 c1 c1n
        cases gk with
        | zero =>
          have hin : ¬ i < n1 := by clear v4 v4b v5 v5b v6 v6b v7 v7b; have := HI.out; omega
          have c1 : decide ((i : Int) < (n1 : Int)) = false := decide_eq_false (by clear v4 v4b v5 v5b v6 v6b v7 v7b; omega)
          have c1n : decide (i < n1) = false := decide_eq_false hin
          clear hin
          go_wp2
          go_ret
          exact ⟨rfl, HOB.out⟩
        | succ m2 =>
          have W8 := Aside0.mk v6
          have W9 := Aside0.mk v6b
          clear v4 v4b v5 v5b v6 v6b v7 v7b
          have hin : i < n1 := by have := HI.out; omega
          have HIN := Aside0.mk hin
          have c1 : decide ((i : Int) < (n1 : Int)) = true := decide_eq_true (by omega)
          have c1n : decide (i < n1) = true := decide_eq_true hin
          obtain ⟨t, ht⟩ : ∃ t : Int, t = 1 + (i : Int) := ⟨_, rfl⟩
          obtain ⟨t2, ht2⟩ : ∃ t2 : Int, t2 = 2 + (i : Int) := ⟨_, rfl⟩
          have W1 := w_of (x := 1 + (i : Int)) (y := t) (by omega) (by have := HNB.out; have := HN1.out; omega)
          have W2 := w_of (x := t + 1) (y := t2) (by omega) (by have := HNB.out; have := HN1.out; omega)
          have W3 := w_of (x := t) (y := t) rfl (by have := HNB.out; have := HN1.out; omega)
          have W4 := w_of (x := t2) (y := t2) rfl (by have := HNB.out; have := HN1.out; omega)
          have W5 := w_of (x := (i : Int) + 1) (y := ((i + 1 : Nat) : Int)) (by omega) (by have := HNB.out; have := HN1.out; omega)
          have y3 : (i < NN) = True := eq_true (by rw [HNNN.out]; have := HN1.out; omega)
          have y4 : ((i : Int) < (NN : Int)) = True := eq_true (by rw [HNNN.out]; have := HN1.out; omega)
          have y5 : (0 ≤ (i : Int)) = True := eq_true (by omega)
          have hx := HC.out i _ (by have := HN1.out; omega) (HDR.out.2 i hin)
          rw [← ht, ← ht2] at hx
          by_cases hig : i < g
          · rw [if_pos hig] at hx
            have d1 : decide ((g : Int) ≤ (i : Int)) = false := decide_eq_false (by omega)
            have d2 : decide (g ≤ i) = false := decide_eq_false (by omega)
            clear hig ht ht2 hin
            have v6 := W8.out; have v6b := W9.out
            have u1 := W1.out.1; have u1b := W1.out.2; have u2 := W2.out.1; have u2b := W2.out.2; have u3 := W3.out.1; have u3b := W3.out.2; have u4 := W4.out.1; have u4b := W4.out.2; have u5 := W5.out.1; have u5b := W5.out.2
            go_wp2
            go_roundg m2
            case measure => clear v6 v6b u1 u1b u2 u2b u3 u3b u4 u4b u5 u5b; omega
            case rel => exact ⟨i + 1, rfl, ⟨by clear v6 v6b u1 u1b u2 u2b u3 u3b u4 u4b u5 u5b; have := HI.out; omega⟩, HC, HOB⟩
          · rw [if_neg hig] at hx
            have d1 : decide ((g : Int) ≤ (i : Int)) = true := decide_eq_true (by omega)
            have d2 : decide (g ≤ i) = true := decide_eq_true (by omega)
            clear hig ht ht2 hin
            have v6 := W8.out; have v6b := W9.out
            have u1 := W1.out.1; have u1b := W1.out.2; have u2 := W2.out.1; have u2b := W2.out.2; have u3 := W3.out.1; have u3b := W3.out.2; have u4 := W4.out.1; have u4b := W4.out.2; have u5 := W5.out.1; have u5b := W5.out.2
            go_wp2
            go_roundg m2
            case measure => clear v6 v6b u1 u1b u2 u2b u3 u3b u4 u4b u5 u5b; omega
            case rel => exact ⟨i + 1, rfl, ⟨by clear v6 v6b u1 u1b u2 u2b u3 u3b u4 u4b u5 u5b; have := HI.out; omega⟩, HC, HOB⟩
    | succ m2 =>
      have K4_ := Aside0.mk v4; have K5_ := Aside0.mk v5; clear v4 v4b v5 v5b v6 v6b v7 v7b
      have hin : i < N := by have := HI.out; omega
      have HI2 := Aside0.mk hin
      have c1 : decide ((i : Int) < (N : Int)) = true := decide_eq_true (by omega)
      have c1n : decide (i < N) = true := decide_eq_true hin
      have Wu1 := w_of (x := ((i : Int) + 1)) (y := ((i + 1 : Nat) : Int)) (by have := HNB.out; omega) (by have := HNB.out; omega)
      obtain ⟨q, hq⟩ : ∃ q : Int, q = 100 + (i : Int) := ⟨_, rfl⟩
      have HQ := Aside0.mk hq
      have Wu2 := w_of (x := (100 + (i : Int))) (y := q) (by have := HNB.out; omega) (by have := HNB.out; omega)
      obtain ⟨t, ht⟩ : ∃ t : Int, t = 1 + (i : Int) := ⟨_, rfl⟩
      have HT := Aside0.mk ht
      have Wu3 := w_of (x := (1 + (i : Int))) (y := t) (by have := HNB.out; omega) (by have := HNB.out; omega)
      have HU4 : Aside0 (IntKind.u8.wrap t = t) := ⟨IntWalk.u8_in _ (by have := HNB.out; omega)⟩
      clear hin hq ht
      have u4 := HU4.out
      have u1 := Wu1.out.1
      have u1b := Wu1.out.2
      have u2 := Wu2.out.1
      have u2b := Wu2.out.2
      have u3 := Wu3.out.1
      have u3b := Wu3.out.2
      go_wp2_with (first | ((with_reducible refine gate_callee (f := 35) rfl ?_); (with_reducible refine gate_dst (N := 48) rfl ?_); refine goesL_ (some 48) rfl rfl Try.func35 (by kernel_rfl) rfl #[.pointer (some ⟨gl, 0, none⟩), .agg #[.int .i64 q, .int .i64 1], .bool true] rfl (by (try simp only [List.map_toArray, List.map_cons, List.map_nil]); first | done | rfl) ?_; (with_reducible refine (get_new2 w _ [] R gl ga gb Z N NN A i c K D HN.out HS.out q 1 (by rw [HK.out, HQ.out]; exact keysTo_new i) HI2.out HO.out).mono ?_); rintro e wx ⟨rfl, R2, A2, n2, c2, K2, D2, hn2, hK2, hD2, hS2, hO_⟩; refine ⟨_, rfl, ?_⟩; have HK2 := Aside0.mk hK2; have Hn2 := Aside0.mk hn2; have HS2 := Aside0.mk hS2; have HD2 := Aside0.mk hD2; clear hK2 hn2 hD2 hS2; clear HO; have HO := Aside0.mk hO_; clear hO_) | ((with_reducible refine gate_callee (f := 36) rfl ?_); (with_reducible refine gate_dst (N := 54) rfl ?_); refine goesL_ (some 54) rfl rfl Try.func36 (by kernel_rfl) rfl #[.pointer (some ⟨gl, 0, none⟩), .int .i64 (i : Int)] rfl (by (try simp only [List.map_toArray, List.map_cons, List.map_nil]); first | done | rfl) ?_; (with_reducible refine (lslot_ok w _ [] R2 gl ga gb Z N NN A2 n2 c2 K2 D2 HN.out HS2.out i HI2.out HO.out).mono ?_); rintro e wx ⟨rfl, hO_⟩; refine ⟨_, rfl, ?_⟩; (obtain ⟨D3, hD3⟩ : ∃ D3, D3 = D2.set i ((D2.getD i []).set 0 t) := ⟨_, rfl⟩); have HD3 := Aside0.mk hD3; clear hD3; (have HSE : Aside0 ((u8s D2.flatten).setIfInBounds (i * Z + 0) (.int .u8 t) = u8s D3.flatten) := ⟨by rw [HD3.out]; exact set_slot HS2.out.dz (by rw [HS2.out.dl]; exact HI2.out) (by rw [HZ.out]; decide)⟩); (have HSZ : Aside0 (i * Z + 0 < (u8s D2.flatten).size) := ⟨by rw [u8s_size, HS2.out.fl HN.out, HN.out.hs2]; have := HI2.out; rw [HZ.out]; omega⟩); (have HS3 : Aside0 (LSt Z N R2 A2 n2 c2 K2 D3) := ⟨by rw [HD3.out]; exact HS2.out.setd (by rw [List.length_set]; exact getD_len HS2.out.dz (by rw [HS2.out.dl]; exact HI2.out))⟩); (have HF3 : Aside0 (Filled D3 N (i + 1)) := ⟨HF.out.step HS.out.dl HI2.out HZ.out HD2.out (by rw [HD3.out, HT.out])⟩); clear HO; have HO := Aside0.mk hO_; clear hO_) | ((with_reducible refine gate_store (p := 72) rfl ?_); refine own_store HO.out rfl (ty := 5) (x := .tmp 72) (y := .tmp 71) (j := i * Z + 0) (v := .int .u8 t) (cs' := u8s D3.flatten) rfl (by rfl) (by rfl) (.tail (.tail .head)) (by kernel_rfl) (by rfl) HSZ.out HSE.out ?_; intro wc hO_; have hO_ := hO_.toA; clear HO; have HO := Aside0.mk hO_; clear hO_))
      go_roundg m2
      case measure => clear u1 u1b u2 u2b u3 u3b u4; omega
      case rel =>
        clear u1 u1b u2 u2b u3 u3b u4
        have e := Hn2.out
        subst e
        exact ⟨i + 1, rfl, ⟨by have := HI.out; omega⟩, R2, A2, c2, K2, D3, ⟨by rw [HK2.out, HK.out, HQ.out, keysTo_succ]⟩, HF3, HS3, HO⟩
def halberdlaw12_LocalFills.f (a0 : Int) (a1 : Int) : Option Bool := if 0 ≤ a0 ∧ a0 < 256 ∧ 0 ≤ a1 ∧ a1 < 256 then some true else none
set_option maxHeartbeats 8000000 in
set_option maxRecDepth 100000 in
theorem halberdlaw12_LocalFills.calls (a0 : Int) (a1 : Int) (r : Bool) (w : World) (hr_ : Aside0 (r = true)) (h : halberdlaw12_LocalFills.f a0 a1 = some r) :
    Calls Try.prog 7 #[.int .u8 a0, .int .u8 a1] w fun e w' => e = .returned (.bool r) ∧ Below w.heap.size w w' := by
  obtain rfl := hr_.out
  unfold halberdlaw12_LocalFills.f at h
  split at h
  · rename_i hc
    have e0 : a0.tmod 16 = a0 % 16 := Int.tmod_eq_emod_of_nonneg hc.1
    obtain ⟨m, hm⟩ : ∃ m : Nat, a0 % 16 = (m : Int) := ⟨(a0 % 16).toNat, by omega⟩
    have e1 : a1.tmod ((m + 1 : Nat) : Int) = a1 % ((m + 1 : Nat) : Int) := Int.tmod_eq_emod_of_nonneg hc.2.2.1
    have p0 : 0 ≤ a1 % ((m + 1 : Nat) : Int) := Int.emod_nonneg _ (by omega)
    have p1 : a1 % ((m + 1 : Nat) : Int) < ((m + 1 : Nat) : Int) := Int.emod_lt_of_pos _ (by omega)
    obtain ⟨g, hg⟩ : ∃ g : Nat, a1 % ((m + 1 : Nat) : Int) = (g : Int) := ⟨(a1 % ((m + 1 : Nat) : Int)).toNat, (Int.toNat_of_nonneg p0).symm⟩
    rw [hg] at p1
    exact fills_ok w a0 a1 m (m + 1) m g _ 1 (e0.trans hm) rfl (by omega) (e1.trans hg) (by omega) ⟨hc.1, hc.2.1⟩ hc.2.2 rfl rfl rfl
  · cases h

/-- THE ONE PURE STATEMENT of halberdlaw12_LocalFills. -/
def halberdlaw12_LocalFills.Pure : Prop := ∀ (a0 : Int) (a1 : Int), ((Lit.int .u8 a0).wf = true) → ((Lit.int .u8 a1).wf = true) → halberdlaw12_LocalFills.f a0 a1 = some true

end Go.Proofs.Ytgkdbhkbkpfbpaa.PLocalFills
