/- Contracts of the storage's methods (local.Local): New, and what a law over one storage needs. -/
import Derived.Test.YtgkdbhkbkpfbpaaLD
set_option linter.unusedVariables false
set_option linter.unusedSimpArgs false
namespace Go.Proofs.Lc
open Go.RowKit Go.Proofs.Ev Go.Proofs.Hp Go.Proofs.Ar Go.Proofs.YtgkdbhkbkpfbpaaW.PrintWords Go.Proofs.YtgkdbhkbkpfbpaaW.PrintLast Go.Proofs.YtgkdbhkbkpfbpaaW.PrintMore
attribute [local go_sem] max2_int min2_int max_two min_two max_three min_three max_four min_four eql_slice_nil
theorem flat_set2 : ∀ (D : List (List Int)) (Z : Nat), (∀ d ∈ D, d.length = Z) → ∀ (k j : Nat) (x : Int), k < D.length → j < Z → (D.set k ((D.getD k []).set j x)).flatten = D.flatten.set (k * Z + j) x
  | [], _, _, k, _, _, hk, _ => absurd hk (Nat.not_lt_zero _)
  | d :: D, Z, h, 0, j, x, _, hj => by
    have hd := h d (List.mem_cons_self ..)
    simp only [List.set_cons_zero, List.flatten_cons, List.getD_cons_zero, Nat.zero_mul, Nat.zero_add]
    rw [List.set_append, if_pos (by omega)]
  | d :: D, Z, h, k + 1, j, x, hk, hj => by
    have hd := h d (List.mem_cons_self ..)
    have ih := flat_set2 D Z (fun y hy => h y (List.mem_cons_of_mem _ hy)) k j x (by simpa using hk) hj
    simp only [List.set_cons_succ, List.flatten_cons, List.getD_cons_succ]
    rw [ih, List.set_append, if_neg (by rw [hd, Nat.add_mul]; omega)]
    congr 2
    rw [hd, Nat.add_mul]; omega
theorem set_slot {D : List (List Int)} {Z k j : Nat} {x : Int} (h : ∀ d ∈ D, d.length = Z) (hk : k < D.length) (hj : j < Z) : (u8s D.flatten).setIfInBounds (k * Z + j) (.int .u8 x) = u8s (D.set k ((D.getD k []).set j x)).flatten := by
  rw [flat_set2 D Z h k j x hk hj]
  simp [u8s]
theorem flat_at : ∀ (D : List (List Int)) (Z : Nat), (∀ d ∈ D, d.length = Z) → ∀ (k j : Nat), k < D.length → j < Z → D.flatten[k * Z + j]? = (D.getD k [])[j]?
  | [], _, _, k, _, hk, _ => absurd hk (Nat.not_lt_zero _)
  | d :: D, Z, h, 0, j, _, hj => by
    have hd := h d (List.mem_cons_self ..)
    simp only [List.flatten_cons, List.getD_cons_zero, Nat.zero_mul, Nat.zero_add]
    rw [List.getElem?_append_left (by omega)]
  | d :: D, Z, h, k + 1, j, hk, hj => by
    have hd := h d (List.mem_cons_self ..)
    have ih := flat_at D Z (fun y hy => h y (List.mem_cons_of_mem _ hy)) k j (by simpa using hk) hj
    simp only [List.flatten_cons, List.getD_cons_succ]
    rw [List.getElem?_append_right (by rw [hd, Nat.add_mul]; omega), ← ih]
    congr 1
    rw [hd, Nat.add_mul]; omega
/-- A cell of a slot. -/
theorem cell_slot {D : List (List Int)} {Z k j : Nat} {x : Int} (h : ∀ d ∈ D, d.length = Z) (hk : k < D.length) (hj : j < Z) (hx : (D.getD k [])[j]? = some x) : (u8s D.flatten)[k * Z + j]? = some (.int .u8 x) := by
  have := flat_at D Z h k j hk hj
  rw [hx] at this
  unfold u8s
  rw [List.getElem?_toArray, List.getElem?_map, this]
  rfl
set_option maxHeartbeats 8000000 in
set_option maxRecDepth 100000 in
theorem lnew_ok (w0 w : World) (L : Hl) (z nn : Int) (Z N NN : Nat) (hz : z = (Z : Int)) (hnn : nn = (N : Int)) (hN : LNum Z N NN) (hO : Own w0 w L) : Calls Try.prog 34 #[.int .i64 z, .int .i64 nn] w fun e w' => ∃ gl, e = .returned (.tuple #[.pointer (some ⟨gl, 0, none⟩), .int .i64 0]) ∧ ∃ ga gb RK A n c K D, K = [] ∧ n = 0 ∧ D = List.replicate N (List.replicate Z 0) ∧ LSt Z N RK A n c K D ∧ Own w0 w' ((gl, .cells #[.slice A n c, .pointer (some ⟨ga, 0, none⟩)] 140 (0, 0)) :: (ga, .cells #[.int .i64 (Z : Int), .slice (some ⟨gb, 0, none⟩) NN NN] 126 (0, 0)) :: (gb, .cells (u8s D.flatten) 5 (0, 0)) :: (RK ++ L)) := by
  subst hz hnn
  have HO := Aside0.mk hO
  have HN := Aside0.mk hN
  have HFL : Aside0 ((List.replicate N (List.replicate Z (0 : Int))).flatten = List.replicate NN 0) := ⟨by rw [hN.hs2, List.flatten_replicate_replicate]⟩
  clear hO hN
  go_enter Try.func34, Try.ntmps34
  go_wp2_with (first | ((with_reducible refine gate_callee (f := 14) rfl ?_); (with_reducible refine gate_dst (N := 11) rfl ?_); refine goesL_ (some 11) rfl rfl Try.func14 (by kernel_rfl) rfl #[.int .i64 (Z : Int), .int .i64 (N : Int)] rfl (by (try simp only [List.map_toArray, List.map_cons, List.map_nil]); first | done | rfl) ?_; (with_reducible refine (new_ok w0 _ _ (Z : Int) (N : Int) NN HN.out.hz HN.out.hn1 HN.out.hs HN.out.hm HO.out).mono ?_); rintro e wx ⟨ga, rfl, gb, hO_⟩; refine ⟨_, rfl, ?_⟩; clear HO; have HO := Aside0.mk hO_; clear hO_) | ((with_reducible refine gate_dst (N := 19) rfl ?_); refine own_box HO.out ?hg (N := 19) ?hd (cs := #[.slice none 0 0, .pointer (some ⟨ga, 0, none⟩)]) (t := 140) ?hr ?_; (case hd => rfl); (case hg => rfl); (case hr => first | (go_simp; done) | (go_simp; rfl) | kernel_rfl); intro g19 w19 hO_; clear HO; have HO := Aside0.mk hO_; clear hO_))
  refine bodyPost_ret (results_tmp2 rfl _ _ _) rfl ?_
  refine ⟨_, rfl, ga, gb, [], none, 0, 0, [], _, rfl, rfl, rfl, ⟨RowOf.none _ _, rfl, Nat.zero_le _, by simp, by intro d hd; rw [(List.mem_replicate.1 hd).2]; simp⟩, ?_⟩
  rw [HFL.out]
  exact HO.out
theorem get_new2 (w0 w : World) (L RK : Hl) (gl ga gb Z N NN : Nat) (A : Option Addr) (n c : Nat) (K : List (Int × Int)) (D : List (List Int)) (hN : LNum Z N NN) (hS : LSt Z N RK A n c K D) (x y : Int) (hk : kfind (x, y) K 0 = -1) (hf : n < N) (hO : Own w0 w ((gl, .cells #[.slice A n c, .pointer (some ⟨ga, 0, none⟩)] 140 (0, 0)) :: (ga, .cells #[.int .i64 (Z : Int), .slice (some ⟨gb, 0, none⟩) NN NN] 126 (0, 0)) :: (gb, .cells (u8s D.flatten) 5 (0, 0)) :: (RK ++ L))) : Calls Try.prog 35 #[.pointer (some ⟨gl, 0, none⟩), .agg #[.int .i64 x, .int .i64 y], .bool true] w fun e w' => e = .returned (.tuple #[.int .i64 (n : Int), .int .i64 0]) ∧ ∃ R2 A2 n2 c2 K2 D2, n2 = n + 1 ∧ K2 = K ++ [(x, y)] ∧ D2 = D.set n (List.replicate Z 0) ∧ LSt Z N R2 A2 n2 c2 K2 D2 ∧ Own w0 w' ((gl, .cells #[.slice A2 n2 c2, .pointer (some ⟨ga, 0, none⟩)] 140 (0, 0)) :: (ga, .cells #[.int .i64 (Z : Int), .slice (some ⟨gb, 0, none⟩) NN NN] 126 (0, 0)) :: (gb, .cells (u8s D2.flatten) 5 (0, 0)) :: (R2 ++ L)) :=
  (get_new w0 w L RK gl ga gb Z N NN A n c K D hN hS x y hk hf hO).mono fun e w' ⟨h1, R2, A2, c2, h2, h3⟩ => ⟨h1, R2, A2, n + 1, c2, _, _, rfl, rfl, rfl, h2, h3⟩
theorem drop_has2 (w0 w : World) (L RK : Hl) (gl ga gb Z N NN : Nat) (A : Option Addr) (n c : Nat) (K : List (Int × Int)) (D : List (List Int)) (hN : LNum Z N NN) (hS : LSt Z N RK A n c K D) (x y : Int) (k k1 n1 : Nat) (hk : kfind (x, y) K 0 = (k : Int)) (hk1 : k1 = k + 1) (hn1 : n1 + 1 = n) (hO : Own w0 w ((gl, .cells #[.slice A n c, .pointer (some ⟨ga, 0, none⟩)] 140 (0, 0)) :: (ga, .cells #[.int .i64 (Z : Int), .slice (some ⟨gb, 0, none⟩) NN NN] 126 (0, 0)) :: (gb, .cells (u8s D.flatten) 5 (0, 0)) :: (RK ++ L))) : Calls Try.prog 37 #[.pointer (some ⟨gl, 0, none⟩), .agg #[.int .i64 x, .int .i64 y]] w fun e w' => e = .returned (.int .i64 0) ∧ ∃ R2 A2 n2 c2 K2 D2, n2 = n1 ∧ K2 = K.eraseIdx k ∧ D2 = (dshift (n1 - k) k D).set n1 (List.replicate Z 0) ∧ LSt Z N R2 A2 n2 c2 K2 D2 ∧ Own w0 w' ((gl, .cells #[.slice A2 n2 c2, .pointer (some ⟨ga, 0, none⟩)] 140 (0, 0)) :: (ga, .cells #[.int .i64 (Z : Int), .slice (some ⟨gb, 0, none⟩) NN NN] 126 (0, 0)) :: (gb, .cells (u8s D2.flatten) 5 (0, 0)) :: (R2 ++ L)) :=
  (drop_has w0 w L RK gl ga gb Z N NN A n c K D hN hS x y k k1 n1 hk hk1 hn1 hO).mono fun e w' ⟨h1, R2, h2, h3⟩ => ⟨h1, R2, A, n1, c, _, _, rfl, rfl, rfl, h2, h3⟩
theorem _root_.Go.Proofs.Hp.Own.tailR {w0 W : World} {B L : Hl} (h : Own w0 W (B ++ L)) : Own w0 W L :=
  ⟨h.bel, fun p hp => h.blk p (List.mem_append_right _ hp), fun p hp => h.fresh p (List.mem_append_right _ hp), by have := h.nd; rw [List.map_append] at this; exact (List.nodup_append.1 this).2.1⟩
set_option maxHeartbeats 8000000 in
set_option maxRecDepth 100000 in
theorem local_alive (w0 w : World) (L : Hl) (hO : Own w0 w L) : Calls Try.prog 33 #[] w fun e w' => e = .returned (.bool true) ∧ ∃ L', Own w0 w' (L' ++ L) := by
  have HO := Aside0.mk hO
  have HN := Aside0.mk (LNum.of (Z := 1) (N := 1) (by decide) (by decide))
  clear hO
  go_enter Try.func33, Try.ntmps33
  go_wp2_with (first | ((with_reducible refine gate_callee (f := 34) rfl ?_); (with_reducible refine gate_dst (N := 10) rfl ?_); refine goesL_ (some 10) rfl rfl Try.func34 (by kernel_rfl) rfl #[.int .i64 1, .int .i64 1] rfl (by (try simp only [List.map_toArray, List.map_cons, List.map_nil]); first | done | rfl) ?_; (with_reducible refine (lnew_ok w0 _ L 1 1 1 1 1 rfl rfl HN.out HO.out).mono ?_); rintro e wx ⟨gl, rfl, ga, gb, R0, A0, n0, c0, K0, D0, hK0, hn0, hD0, hS0, hO_⟩; refine ⟨_, rfl, ?_⟩; have HK0 := Aside0.mk hK0; have Hn0 := Aside0.mk hn0; have HS0 := Aside0.mk hS0; have e1 : ((n0 : Int) == 0) = true := (by simp [hn0]); have e1p : ((n0 : Int) = 0) = True := (by simp [hn0]); clear hK0 hn0 hD0 hS0; clear HO; have HO := Aside0.mk hO_; clear hO_) | ((with_reducible refine gate_callee (f := 35) rfl ?_); (with_reducible refine gate_dst (N := 22) rfl ?_); refine goesL_ (some 22) rfl rfl Try.func35 (by kernel_rfl) rfl #[.pointer (some ⟨gl, 0, none⟩), .agg #[.int .i64 5, .int .i64 1], .bool true] rfl (by (try simp only [List.map_toArray, List.map_cons, List.map_nil]); first | done | rfl) ?_; (with_reducible refine (get_new2 w0 _ L R0 gl ga gb 1 1 1 A0 n0 c0 K0 D0 HN.out HS0.out 5 1 (by rw [HK0.out]; simp [kfind]) (by rw [Hn0.out]; decide) HO.out).mono ?_); rintro e wx ⟨rfl, R1, A1, n1, c1, K1, D1, hn1, hK1, hD1, hS1, hO_⟩; refine ⟨_, rfl, ?_⟩; have HK1 := Aside0.mk hK1; have Hn1 := Aside0.mk hn1; have HS1 := Aside0.mk hS1; clear hK1 hn1 hD1 hS1; clear HO; have HO := Aside0.mk hO_; clear hO_) | ((with_reducible refine gate_callee (f := 35) rfl ?_); (with_reducible refine gate_dst (N := 28) rfl ?_); refine goesL_ (some 28) rfl rfl Try.func35 (by kernel_rfl) rfl #[.pointer (some ⟨gl, 0, none⟩), .agg #[.int .i64 5, .int .i64 2], .bool true] rfl (by (try simp only [List.map_toArray, List.map_cons, List.map_nil]); first | done | rfl) ?_; (with_reducible refine (get_full w0 _ L R1 gl ga gb 1 1 1 A1 n1 c1 K1 D1 HN.out HS1.out 5 2 (by rw [HK1.out, HK0.out]; simp [kfind]) (by rw [Hn1.out, Hn0.out]) HO.out).mono ?_); rintro e wx ⟨rfl, hO_⟩; refine ⟨_, rfl, ?_⟩; clear HO; have HO := Aside0.mk hO_; clear hO_) | ((with_reducible refine gate_callee (f := 35) rfl ?_); (with_reducible refine gate_dst (N := 34) rfl ?_); refine goesL_ (some 34) rfl rfl Try.func35 (by kernel_rfl) rfl #[.pointer (some ⟨gl, 0, none⟩), .agg #[.int .i64 5, .int .i64 2], .bool false] rfl (by (try simp only [List.map_toArray, List.map_cons, List.map_nil]); first | done | rfl) ?_; (with_reducible refine (get_not w0 _ L R1 gl ga gb 1 1 1 A1 n1 c1 K1 D1 HN.out HS1.out 5 2 (by rw [HK1.out, HK0.out]; simp [kfind]) HO.out).mono ?_); rintro e wx ⟨rfl, hO_⟩; refine ⟨_, rfl, ?_⟩; clear HO; have HO := Aside0.mk hO_; clear hO_))
  go_ret
  exact ⟨rfl, [], HO.out.drop.drop.drop.tailR⟩
end Go.Proofs.Lc
