/- Drop of the document's storage, over lists of blocks; no conditions beyond each theorem's own. -/
import Derived.Test.YtgkdbhkbkpfbpaaRL
set_option linter.unusedVariables false
set_option linter.unusedSimpArgs false
namespace Go.Proofs.Lc
open Go.RowKit Go.Proofs.Ev Go.Proofs.Hp Go.Proofs.Ar Go.Proofs.YtgkdbhkbkpfbpaaW.PrintWords Go.Proofs.YtgkdbhkbkpfbpaaW.PrintLast Go.Proofs.YtgkdbhkbkpfbpaaW.PrintMore
attribute [local go_sem] max2_int min2_int max_two min_two max_three min_three max_four min_four eql_slice_nil
/-- The slot that is laid anew, if it is. -/
def zblk (Z : Nat) (ZL : List Nat) : Hl := ZL.map fun g => (g, .cells (u8s (List.replicate Z 0)) 5 (0, 0))
theorem blks_app : ∀ (G G' : List Nat) (D D' : List (List Int)), G.length = D.length → blks (G ++ G') (D ++ D') = blks G D ++ blks G' D'
  | [], _, [], _, _ => rfl
  | [], _, _ :: _, _, h => by cases h
  | _ :: _, _, [], _, h => by cases h
  | a :: G, G', b :: D, D', h => by
    have ih := blks_app G G' D D' (by simpa using h)
    simp only [List.cons_append, blks, ih]
theorem blks_erase : ∀ (G : List Nat) (D : List (List Int)) (k : Nat), G.length = D.length → k < D.length → ∃ b, (blks G D).Perm (b :: blks (G.eraseIdx k) (D.eraseIdx k))
  | [], [], _, _, h => absurd h (Nat.not_lt_zero _)
  | [], _ :: _, _, h, _ => by cases h
  | _ :: _, [], _, h, _ => by cases h
  | a :: G, b :: D, 0, _, _ => ⟨_, List.Perm.refl _⟩
  | a :: G, b :: D, k + 1, h, hk => by
    obtain ⟨q, hq⟩ := blks_erase G D k (by simpa using h) (by simpa using hk)
    refine ⟨q, ?_⟩
    simp only [blks, List.eraseIdx_cons_succ]
    exact (List.Perm.cons _ hq).trans (List.Perm.swap _ _ _)
/-- What a list is, the k-th gone, and another put behind the first n. -/
def moved {α : Type} (l : List α) (k n : Nat) (z : α) : List α := (l.take n).eraseIdx k ++ (z :: l.drop n)
theorem moved_len {α : Type} (l : List α) (k n : Nat) (z : α) (hk : k < n) (hn : n ≤ l.length) : (moved l k n z).length = l.length := by
  unfold moved
  rw [List.length_append, List.length_eraseIdx, List.length_take, Nat.min_eq_left hn, if_pos hk, List.length_cons, List.length_drop]
  omega
theorem erase_split {α : Type} (l : List α) (k n : Nat) (hk : k < n) (hn : n ≤ l.length) : l.eraseIdx k = (l.take n).eraseIdx k ++ l.drop n := by
  conv => lhs; rw [← List.take_append_drop n l]
  rw [List.eraseIdx_append_of_lt_length (by rw [List.length_take]; omega)]
theorem moved_perm {G : List Nat} {D : List (List Int)} {k n Z g : Nat} (hG : G.length = D.length) (hk : k < n) (hn : n ≤ D.length) :
    ∃ b, (zblk Z [g] ++ blks G D).Perm (b :: blks (moved G k n g) (moved D k n (List.replicate Z 0))) := by
  obtain ⟨b, hb⟩ := blks_erase G D k hG (by omega)
  refine ⟨b, ?_⟩
  rw [erase_split G k n hk (by omega), erase_split D k n hk hn] at hb
  have hl : ((G.take n).eraseIdx k).length = ((D.take n).eraseIdx k).length := by
    rw [List.length_eraseIdx, List.length_eraseIdx, List.length_take, List.length_take, hG]
  rw [blks_app _ _ _ _ hl] at hb
  unfold moved
  rw [blks_app _ _ _ _ hl]
  have hz : blks (g :: G.drop n) (List.replicate Z (0 : Int) :: D.drop n) = (g, .cells (u8s (List.replicate Z 0)) 5 (0, 0)) :: blks (G.drop n) (D.drop n) := rfl
  rw [hz]
  show ((g, .cells (u8s (List.replicate Z 0)) 5 (0, 0)) :: blks G D).Perm _
  refine (List.Perm.cons _ hb).trans ?_
  refine (List.Perm.swap _ _ _).trans (List.Perm.cons _ ?_)
  exact List.perm_middle.symm
theorem take_erase_next {α : Type} (l : List α) (i k : Nat) (h : i < l.length) (hk : i ≠ k) (hki : k < i ∨ i < k) : (l.take (i + 1)).eraseIdx k = (l.take i).eraseIdx k ++ [l[i]] := by
  rw [List.take_succ_eq_append_getElem h]
  rcases hki with hki | hki
  · rw [List.eraseIdx_append_of_lt_length (by rw [List.length_take]; omega)]
  · rw [List.eraseIdx_of_length_le (by rw [List.length_append, List.length_take]; simp; omega), List.eraseIdx_of_length_le (by rw [List.length_take]; omega)]
theorem take_erase_same {α : Type} (l : List α) (k : Nat) (h : k < l.length) : (l.take (k + 1)).eraseIdx k = (l.take k).eraseIdx k := by
  rw [List.eraseIdx_eq_take_drop_succ, List.eraseIdx_of_length_le (by rw [List.length_take]; omega), List.take_take, Nat.min_eq_left (Nat.le_succ k), List.drop_of_length_le (by rw [List.length_take]; omega), List.append_nil]
theorem sl_lt {α : Type} (G : List α) (i k n : Nat) (hi : i < n) (hik : i ≠ k) (hG : i < G.length) : (G.take (min (i + 1) n)).eraseIdx k ++ (([] : List α) ++ (G.drop n).take (i + 1 - n)) = ((G.take (min i n)).eraseIdx k ++ (([] : List α) ++ (G.drop n).take (i - n))) ++ [G[i]] := by
  rw [Nat.min_eq_left (by omega), Nat.min_eq_left (by omega), show i + 1 - n = 0 by omega, show i - n = 0 by omega, take_erase_next G i k hG hik (by omega)]
  simp
theorem sl_same {α : Type} (G : List α) (k n : Nat) (hk : k < n) (hG : k < G.length) : (G.take (min (k + 1) n)).eraseIdx k ++ (([] : List α) ++ (G.drop n).take (k + 1 - n)) = (G.take (min k n)).eraseIdx k ++ (([] : List α) ++ (G.drop n).take (k - n)) := by
  rw [Nat.min_eq_left (by omega), Nat.min_eq_left (by omega), show k + 1 - n = 0 by omega, show k - n = 0 by omega, take_erase_same G k hG]
theorem sl_ge {α : Type} (G Z : List α) (i k n : Nat) (hi : n ≤ i) (hG : i < G.length) : (G.take (min (i + 1) n)).eraseIdx k ++ (Z ++ (G.drop n).take (i + 1 - n)) = ((G.take (min i n)).eraseIdx k ++ (Z ++ (G.drop n).take (i - n))) ++ [G[i]] := by
  rw [Nat.min_eq_right (by omega), Nat.min_eq_right hi, show i + 1 - n = (i - n) + 1 by omega, List.take_succ_eq_append_getElem (by rw [List.length_drop]; omega), List.getElem_drop]
  simp only [show n + (i - n) = i by omega, List.append_assoc]
theorem kcells_put (K : List (Int × Int)) (a b : Int) : kcells (K ++ [(a, b)]) = kcells K ++ [.int .i64 a, .int .i64 b] := kcells_app K _
theorem row_len {e : TypeId} {size : Nat} {R : Hl} {v : Value} {n : Nat} {xs : List Value} (h : RowOf e size R v n xs) : xs.length = n * size := h.1
theorem RefA.opened {X : Hl} {A : Option Addr} {c Z : Nat} {D : List (List Int)} (h : RefA X A c Z D) (hn : 0 < D.length) :
    ∃ gs cs G, A = some ⟨gs, 0, none⟩ ∧ X = (gs, .cells cs 32 (0, 0)) :: blks G D ∧ G.length = D.length ∧ ∀ i (hi : i < G.length), cs[i]? = some (slv Z G[i]) := by
  obtain ⟨⟨G, RS, rfl, hR, hG⟩, hl⟩ := h
  obtain ⟨gs, cs, rfl, rfl, h1, h2, h3, h4, h5⟩ := RowOf.block hR hn
  refine ⟨gs, cs, G, rfl, rfl, hG, fun i hi => take_at h4 ?_⟩
  rw [List.getElem?_map, List.getElem?_eq_getElem hi]
  rfl
set_option maxHeartbeats 8000000 in
set_option maxRecDepth 100000 in
theorem rdrop_not (w0 w : World) (L RK X : Hl) (gw gr Z N : Nat) (A AS : Option Addr) (n c cS : Nat) (K : List (Int × Int)) (D : List (List Int)) (hS : RSt12 Z N RK A n c X AS cS K D) (x y : Int) (hk : kfind (x, y) K 0 = -1) (hO : Own w0 w ((gw, .cells #[.slice A n c, .pointer (some ⟨gr, 0, none⟩)] 91 (0, 0)) :: (gr, .cells #[.int .i64 (Z : Int), .slice AS N cS] 129 (0, 0)) :: (RK ++ (X ++ L)))) : Calls Try.prog 56 #[.pointer (some ⟨gw, 0, none⟩), .agg #[.int .i64 x, .int .i64 y]] w fun e w' => e = .returned (.int .i64 2) ∧ Own w0 w' ((gw, .cells #[.slice A n c, .pointer (some ⟨gr, 0, none⟩)] 91 (0, 0)) :: (gr, .cells #[.int .i64 (Z : Int), .slice AS N cS] 129 (0, 0)) :: (RK ++ (X ++ L))) := by
  have HF := Aside0.mk hk
  clear hk
  have hui := Try.underlying3
  have hul := Try.underlying32
  have huk := Try.underlying54
  have huks := Try.underlying89
  have hull := Try.underlying127
  have hup := Try.underlying29
  have HO : Aside0 (Own w0 w ((gw, .cells #[.slice A n c, .pointer (some ⟨gr, 0, none⟩)] 91 (0, 0)) :: (gr, .cells #[.int .i64 (Z : Int), .slice AS N cS] 129 (0, 0)) :: (RK ++ (X ++ L)))) := ⟨hO⟩
  have HS := Aside0.mk hS
  clear hO hS
  go_enter Try.func56, Try.ntmps56
  go_wp2_with (first | ((with_reducible refine gate_dst (N := 3) rfl ?_); refine own_box HO.out ?hg (N := 3) ?hd (cs := #[.int .i64 x, .int .i64 y]) (t := 54) ?hr ?_; (case hd => rfl); (case hg => rfl); (case hr => first | (go_simp; done) | (go_simp; rfl) | kernel_rfl); intro g3 w3 hO_; clear HO; have HO := Aside0.mk hO_; clear hO_) | ((with_reducible refine gate_dst (N := 11) rfl ?_); refine own_wload HO.out rfl (x := .tmp 3) rfl (by rfl) (by (repeat (first | exact .head | apply Ext.tail))) huk (by rfl) (by kernel_rfl) ?_) | ((with_reducible refine gate_callee (f := 89) rfl ?_); (with_reducible refine gate_dst (N := 12) rfl ?_); refine goesL_ (some 12) rfl rfl Try.func89 (by kernel_rfl) rfl #[.pointer (some ⟨gw, 0, none⟩), .agg #[.int .i64 x, .int .i64 y]] rfl (by (try simp only [List.map_toArray, List.map_cons, List.map_nil]); first | done | rfl) ?_; (with_reducible refine (rfind12 w0 _ ((g3, .cells #[.int .i64 x, .int .i64 y] 54 (0, 0)) :: L) RK X gw gr Z N A AS n c cS K D HS.out x y _ HF.out HO.out.back12).mono ?_); rintro e wx ⟨rfl, hO_⟩; refine ⟨_, rfl, ?_⟩; have hO_ := hO_.front12; clear HO; have HO := Aside0.mk hO_; clear hO_))
  go_ret
  exact ⟨rfl, HO.out.drop⟩
theorem i_facts {a b : Nat} (h : ¬ a = b) : ((a : Int) == (b : Int)) = false ∧ (a == b) = false ∧ ((a : Int) = (b : Int)) = False ∧ (a = b) = False ∧ ((a : Int) != (b : Int)) = true ∧ (a != b) = true :=
  ⟨beq_eq_false_iff_ne.mpr (by omega), beq_eq_false_iff_ne.mpr h, eq_false (by omega), eq_false h, by simp [bne]; omega, by simp [bne, h]⟩
set_option maxHeartbeats 8000000 in
set_option maxRecDepth 100000 in
theorem rdrop_has (w0 w : World) (L RK X : Hl) (gw gr Z N : Nat) (A AS : Option Addr) (n c cS : Nat) (K : List (Int × Int)) (D : List (List Int)) (hS : RSt12 Z N RK A n c X AS cS K D) (x y : Int) (k : Nat) (hk : kfind (x, y) K 0 = (k : Int)) (hO : Own w0 w ((gw, .cells #[.slice A n c, .pointer (some ⟨gr, 0, none⟩)] 91 (0, 0)) :: (gr, .cells #[.int .i64 (Z : Int), .slice AS N cS] 129 (0, 0)) :: (RK ++ (X ++ L)))) : Calls Try.prog 56 #[.pointer (some ⟨gw, 0, none⟩), .agg #[.int .i64 x, .int .i64 y]] w fun e w' => e = .returned (.int .i64 0) ∧ ∃ KR AK n1 ck X2 AB cb K2 D2, n1 + 1 = n ∧ K2 = K.eraseIdx k ∧ D2 = moved D k n (List.replicate Z 0) ∧ RSt12 Z N KR AK n1 ck X2 AB cb K2 D2 ∧ Own w0 w' ((gw, .cells #[.slice AK n1 ck, .pointer (some ⟨gr, 0, none⟩)] 91 (0, 0)) :: (gr, .cells #[.int .i64 (Z : Int), .slice AB N cb] 129 (0, 0)) :: (KR ++ (X2 ++ L))) := by
  have HF := Aside0.mk hk
  have hkn : k < n := by have := (kfind_lt (x, y) K 0 k hk).2; rw [hS.kl] at this; omega
  have HKN := Aside0.mk hkn
  have c0 : decide ((k : Int) < 0) = false := decide_eq_false (by omega)
  obtain ⟨gq, cq, hA, hRK, _, _, _, htk, _⟩ := RowOf.block hS.row (by omega)
  subst hA
  subst hRK
  obtain ⟨gs, cs, G, hAS, hX, hG, hsc⟩ := RefA.opened hS.refA (by rw [hS.dl]; have := hS.nle; omega)
  subst hAS
  subst hX
  have HG := Aside0.mk hG
  have HTK := Aside0.mk htk
  have HSCS := Aside0.mk hsc
  clear hk htk hG hsc hkn
  have hui := Try.underlying3
  have hul := Try.underlying32
  have huk := Try.underlying54
  have huks := Try.underlying89
  have hull := Try.underlying127
  have hup := Try.underlying29
  have HO : Aside0 (Own w0 w ((gw, .cells #[.slice (some ⟨gq, 0, none⟩) n c, .pointer (some ⟨gr, 0, none⟩)] 91 (0, 0)) :: (gr, .cells #[.int .i64 (Z : Int), .slice (some ⟨gs, 0, none⟩) N cS] 129 (0, 0)) :: ([(gq, .cells cq 54 (0, 0))] ++ (((gs, .cells cs 32 (0, 0)) :: blks G D) ++ L)))) := ⟨hO⟩
  have HS := Aside0.mk hS
  clear hO hS
  go_enter Try.func56, Try.ntmps56
  go_wp2_with (first | ((with_reducible refine gate_dst (N := 3) rfl ?_); refine own_box HO.out ?hg (N := 3) ?hd (cs := #[.int .i64 x, .int .i64 y]) (t := 54) ?hr ?_; (case hd => rfl); (case hg => rfl); (case hr => first | (go_simp; done) | (go_simp; rfl) | kernel_rfl); intro g3 w3 hO_; clear HO; have HO := Aside0.mk hO_; clear hO_) | ((with_reducible refine gate_dst (N := 11) rfl ?_); refine own_wload HO.out rfl (x := .tmp 3) rfl (by rfl) (by (repeat (first | exact .head | apply Ext.tail))) huk (by rfl) (by kernel_rfl) ?_) | ((with_reducible refine gate_callee (f := 89) rfl ?_); (with_reducible refine gate_dst (N := 12) rfl ?_); refine goesL_ (some 12) rfl rfl Try.func89 (by kernel_rfl) rfl #[.pointer (some ⟨gw, 0, none⟩), .agg #[.int .i64 x, .int .i64 y]] rfl (by (try simp only [List.map_toArray, List.map_cons, List.map_nil]); first | done | rfl) ?_; (with_reducible refine (rfind12 w0 _ ((g3, .cells #[.int .i64 x, .int .i64 y] 54 (0, 0)) :: L) [(gq, .cells cq 54 (0, 0))] ((gs, .cells cs 32 (0, 0)) :: blks G D) gw gr Z N (some ⟨gq, 0, none⟩) (some ⟨gs, 0, none⟩) n c cS K D HS.out x y _ HF.out HO.out.back12).mono ?_); rintro e wx ⟨rfl, hO_⟩; refine ⟨_, rfl, ?_⟩; have hO_ := hO_.front12; clear HO; have HO := Aside0.mk hO_; clear hO_) | ((with_reducible refine gate_dst (N := 18) rfl ?_); refine own_load HO.out rfl (x := .tmp 17) (v := .slice (some ⟨gq, 0, none⟩) n c) rfl (by rfl) (by (repeat (first | exact .head | apply Ext.tail))) huks (by rfl) (by rfl) ?_))
  go_loopg [7, 8, 9] N (fun gk v7 v8 v9 w' => ∃ (i nk ck ns cb : Nat) (AK AB : Option Addr) (KR SR : Hl) (KL : List (Int × Int)) (SLs ZL : List Nat), v7 = .slice AK nk ck ∧ v8 = .slice AB ns cb ∧ v9 = .int .i64 (i : Int) ∧ Aside0 (i + gk = N) ∧ Aside0 (KL = (K.take i).eraseIdx k) ∧ Aside0 (SLs = (G.take (min i n)).eraseIdx k ++ (ZL ++ (G.drop n).take (i - n))) ∧ Aside0 (ZL.length = if n < i then 1 else 0) ∧ Aside0 (RowOf 54 2 KR (.slice AK nk ck) nk (kcells KL)) ∧ Aside0 (RowOf 32 1 SR (.slice AB ns cb) ns (SLs.map (slv Z))) ∧ Aside0 (Own w0 w' ((g3, .cells #[.int .i64 x, .int .i64 y] 54 (0, 0)) :: (gw, .cells #[.slice (some ⟨gq, 0, none⟩) n c, .pointer (some ⟨gr, 0, none⟩)] 91 (0, 0)) :: (gr, .cells #[.int .i64 (Z : Int), .slice (some ⟨gs, 0, none⟩) N cS] 129 (0, 0)) :: (gq, .cells cq 54 (0, 0)) :: (gs, .cells cs 32 (0, 0)) :: (KR ++ (SR ++ (zblk Z ZL ++ (blks G D ++ L)))))))
  case atStart => exact ⟨0, 0, 0, 0, 0, none, none, [], [], [], [], [], rfl, rfl, rfl, ⟨Nat.zero_add _⟩, ⟨by simp⟩, ⟨by simp⟩, ⟨rfl⟩, ⟨RowOf.none _ _⟩, ⟨RowOf.none _ _⟩, HO⟩
  case round =>
    clear HO c0
    obtain ⟨i, nk, ck, ns, cb, AK, AB, KR, SR, KL, SLs, ZL, rfl, rfl, rfl, HI, HKL, HSL, HZL, HKR, HSR, HO⟩ := hrel
    have HBD : Aside0 (nk ≤ 40 ∧ ns ≤ 40) := ⟨by
      have h1 := row_len HKR.out
      have h2 := row_len HSR.out
      rw [kcells_len, HKL.out, List.length_eraseIdx, List.length_take] at h1
      rw [List.length_map, HSL.out, List.length_append, List.length_append, List.length_eraseIdx, List.length_take, List.length_take, HZL.out] at h2
      have h3 := HI.out
      have h4 := HS.out.hN
      have h5 := HS.out.nle
      clear HI HKL HSL HZL HKR HSR HO
      constructor
      · split at h1 <;> omega
      · split at h2 <;> split at h2 <;> omega⟩
    cases gk with
    | zero =>
      obtain rfl : i = N := by have := HI.out; omega
      have d1 : decide ((i : Int) < (i : Int)) = false := decide_eq_false (Int.lt_irrefl _)
      have d1n : decide (i < i) = false := decide_eq_false (Nat.lt_irrefl _)
      have HDL := Aside0.mk HS.out.dl
      have HNLE := Aside0.mk HS.out.nle
      clear HI HSCS HTK
      by_cases hnN : n = i
      · subst hnN
        obtain rfl : ZL = [] := List.length_eq_zero_iff.1 (by rw [HZL.out, if_neg (by omega)])
        have hns : ns + 1 = n := by
          have h := row_len HSR.out
          rw [List.length_map, HSL.out, List.length_append, List.length_append, List.length_eraseIdx, List.length_take, List.length_take, HG.out, HDL.out, List.length_drop, HG.out, HDL.out, Nat.min_self, Nat.min_self, if_pos HKN.out] at h
          have := HKN.out
          simp at h
          omega
        have hm : ∀ g, SLs.map (slv Z) ++ [slv Z g] = (moved G k n g).map (slv Z) := by
          intro g
          rw [HSL.out]
          unfold moved
          rw [Nat.min_self, List.drop_of_length_le (by rw [HG.out, HDL.out]; exact Nat.le_refl _)]
          simp
        have HNS := Aside0.mk hns
        have HM := Aside0.mk hm
        clear hns hm HSL HZL
        go_wp2_with (first | ((with_reducible refine gate_dst (N := 18) rfl ?_); refine own_load HO.out rfl (x := .tmp 17) (v := .slice (some ⟨gq, 0, none⟩) n c) rfl (by rfl) (by (repeat (first | exact .head | apply Ext.tail))) huks (by rfl) (by rfl) ?_) | ((with_reducible refine gate_dst (N := 24) rfl ?_); refine own_load HO.out rfl (x := .tmp 23) (v := .pointer (some ⟨gr, 0, none⟩)) rfl (by rfl) (by (repeat (first | exact .head | apply Ext.tail))) hup (by rfl) (by rfl) ?_) | ((with_reducible refine gate_dst (N := 27) rfl ?_); refine own_load HO.out rfl (x := .tmp 26) (v := .slice (some ⟨gs, 0, none⟩) n cS) rfl (by rfl) (by (repeat (first | exact .head | apply Ext.tail))) hull (by rfl) (by rfl) ?_) | ((with_reducible refine gate_dst (N := 44) rfl ?_); refine own_load HO.out rfl (x := .tmp 43) (v := .slice (some ⟨gq, 0, none⟩) n c) rfl (by rfl) (by (repeat (first | exact .head | apply Ext.tail))) huks (by rfl) (by rfl) ?_) | ((with_reducible refine gate_dst (N := 57) rfl ?_); refine own_load HO.out rfl (x := .tmp 56) (v := .pointer (some ⟨gr, 0, none⟩)) rfl (by rfl) (by (repeat (first | exact .head | apply Ext.tail))) hup (by rfl) (by rfl) ?_) | ((with_reducible refine gate_dst (N := 60) rfl ?_); refine own_load HO.out rfl (x := .tmp 59) (v := .int .i64 (Z : Int)) rfl (by rfl) (by (repeat (first | exact .head | apply Ext.tail))) hui (by rfl) (by rfl) ?_) | ((with_reducible refine gate_dst (N := 71) rfl ?_); refine own_load HO.out rfl (x := .tmp 70) (v := .pointer (some ⟨gr, 0, none⟩)) rfl (by rfl) (by (repeat (first | exact .head | apply Ext.tail))) hup (by rfl) (by rfl) ?_) | ((with_reducible refine gate_dst (N := 74) rfl ?_); refine own_load HO.out rfl (x := .tmp 73) (v := .slice (some ⟨gs, 0, none⟩) n cS) rfl (by rfl) (by (repeat (first | exact .head | apply Ext.tail))) hull (by rfl) (by rfl) ?_) | ((with_reducible refine gate_dst (N := 84) rfl ?_); refine own_load HO.out rfl (x := .tmp 83) (v := .pointer (some ⟨gr, 0, none⟩)) rfl (by rfl) (by (repeat (first | exact .head | apply Ext.tail))) hup (by rfl) (by rfl) ?_) | ((with_reducible refine gate_dst (N := 87) rfl ?_); refine own_load HO.out rfl (x := .tmp 86) (v := .slice (some ⟨gs, 0, none⟩) n cS) rfl (by rfl) (by (repeat (first | exact .head | apply Ext.tail))) hull (by rfl) (by rfl) ?_) | ((with_reducible refine gate_dst (N := 94) rfl ?_); refine own_load HO.out rfl (x := .tmp 93) (v := .pointer (some ⟨gr, 0, none⟩)) rfl (by rfl) (by (repeat (first | exact .head | apply Ext.tail))) hup (by rfl) (by rfl) ?_) | ((with_reducible refine gate_dst (N := 97) rfl ?_); refine own_load HO.out rfl (x := .tmp 96) (v := .int .i64 (Z : Int)) rfl (by rfl) (by (repeat (first | exact .head | apply Ext.tail))) hui (by rfl) (by rfl) ?_) | ((with_reducible refine gate_dst (N := 108) rfl ?_); refine own_load HO.out rfl (x := .tmp 107) (v := .pointer (some ⟨gr, 0, none⟩)) rfl (by rfl) (by (repeat (first | exact .head | apply Ext.tail))) hup (by rfl) (by rfl) ?_) | ((with_reducible refine gate_dst (N := 98) rfl ?_); refine own_make (z := .int .u8 0) (size := 1) (bytes := 1) (n := Z) HO.out rfl rfl hul (by kernel_rfl) rfl (by rfl) (by rfl) (by have := HS.out.hZ; omega) (by have := HS.out.hZ; show Z ≤ 9223372036854775807; omega) (made_u8 Z) ?_; intro g98 w98 hO_; clear HO; have HO := Aside0.mk hO_; clear hO_) | ((with_reducible refine gate_dst (N := 99) rfl ?_); refine own_lit HO.out rfl (N := 99) rfl (cs := #[slv Z g98]) (t := 32) (n := 1) (m := 1) (by first | (go_simp; done) | (go_simp; rfl) | kernel_rfl) ?_; intro g99 w99 hO_; clear HO; have HO := Aside0.mk hO_; clear hO_) | ((with_reducible refine gate_dst (N := 100) rfl ?_); refine own_append (z := .slice none 0 0) (size := 1) (bytes := 24) (R := SR) (L := zblk Z [] ++ (blks G D ++ L)) ((g99, .cells #[slv Z g98] 32 (0, 0)) :: (g98, .cells (u8s (List.replicate Z 0)) 5 (0, 0)) :: (g3, .cells #[.int .i64 x, .int .i64 y] 54 (0, 0)) :: (gw, .cells #[.slice (some ⟨gq, 0, none⟩) n c, .pointer (some ⟨gr, 0, none⟩)] 91 (0, 0)) :: (gr, .cells #[.int .i64 (Z : Int), .slice (some ⟨gs, 0, none⟩) n cS] 129 (0, 0)) :: (gq, .cells cq 54 (0, 0)) :: (gs, .cells cs 32 (0, 0)) :: KR) HO.out rfl rfl hull (by kernel_rfl) rfl (by rfl) HSR.out (by rfl) (HO.out.src hull .head 0 1 1 [slv Z g98] rfl rfl (by simp [Value.oneCell', slv])) (by have := HBD.out; show ns + 1 ≤ 9223372036854775807; omega) (by have := HBD.out; omega) ?_; intro v2 SR2 wc hR2 hO_; obtain ⟨AB2, cb2, rfl⟩ := RowOf.shape hR2; have HSR2 := Aside0.mk hR2; clear hR2; have hO_ : Own w0 wc ((g3, .cells #[.int .i64 x, .int .i64 y] 54 (0, 0)) :: (gw, .cells #[.slice (some ⟨gq, 0, none⟩) n c, .pointer (some ⟨gr, 0, none⟩)] 91 (0, 0)) :: (gr, .cells #[.int .i64 (Z : Int), .slice (some ⟨gs, 0, none⟩) n cS] 129 (0, 0)) :: (gq, .cells cq 54 (0, 0)) :: (gs, .cells cs 32 (0, 0)) :: (KR ++ (SR2 ++ ((g98, .cells (u8s (List.replicate Z 0)) 5 (0, 0)) :: (blks G D ++ L))))) := (show Own w0 wc ((g99, .cells #[slv Z g98] 32 (0, 0)) :: (g98, .cells (u8s (List.replicate Z 0)) 5 (0, 0)) :: (g3, .cells #[.int .i64 x, .int .i64 y] 54 (0, 0)) :: (gw, .cells #[.slice (some ⟨gq, 0, none⟩) n c, .pointer (some ⟨gr, 0, none⟩)] 91 (0, 0)) :: (gr, .cells #[.int .i64 (Z : Int), .slice (some ⟨gs, 0, none⟩) n cS] 129 (0, 0)) :: (gq, .cells cq 54 (0, 0)) :: (gs, .cells cs 32 (0, 0)) :: (KR ++ (SR2 ++ (blks G D ++ L)))) from hO_).rep [(g99, .cells #[slv Z g98] 32 (0, 0))] (by classical exact List.perm_iff_count.2 (fun a => by simp only [List.count_append, List.count_cons, List.count_nil, List.append_assoc, List.cons_append, List.nil_append]; ac_rfl)); have hO_ : Own w0 wc ((g3, .cells #[.int .i64 x, .int .i64 y] 54 (0, 0)) :: (gw, .cells #[.slice (some ⟨gq, 0, none⟩) n c, .pointer (some ⟨gr, 0, none⟩)] 91 (0, 0)) :: (gr, .cells #[.int .i64 (Z : Int), .slice (some ⟨gs, 0, none⟩) n cS] 129 (0, 0)) :: (gq, .cells cq 54 (0, 0)) :: (gs, .cells cs 32 (0, 0)) :: (KR ++ (SR2 ++ (zblk Z [g98] ++ (blks G D ++ L))))) := hO_; clear HO; have HO := Aside0.mk hO_; clear hO_) | ((with_reducible refine gate_store (p := 104) rfl ?_); refine own_store HO.out rfl (ty := 89) (x := .tmp 104) (y := .tmp 102) (v := .slice AK nk ck) (cs' := #[.slice AK nk ck, .pointer (some ⟨gr, 0, none⟩)]) rfl (by rfl) (by rfl) (by (repeat (first | exact .head | apply Ext.tail))) (by kernel_rfl) (by rfl) (by simp) (by rfl) ?_; intro wc hO_; clear HO; have HO := Aside0.mk hO_; clear hO_) | ((with_reducible refine gate_store (p := 111) rfl ?_); refine own_store HO.out rfl (ty := 127) (x := .tmp 111) (y := .tmp 109) (v := .slice AB2 (ns + 1) cb2) (cs' := #[.int .i64 (Z : Int), .slice AB2 (ns + 1) cb2]) rfl (by rfl) (by rfl) (by (repeat (first | exact .head | apply Ext.tail))) (by kernel_rfl) (by rfl) (by simp) (by rfl) ?_; intro wc hO_; clear HO; have HO := Aside0.mk hO_; clear hO_))
        go_ret
        have hnsN := HNS.out
        obtain ⟨b, hb⟩ := moved_perm (G := G) (D := D) (k := k) (n := n) (Z := Z) (g := g98) HG.out HKN.out (by have := HS.out.nle; rw [HS.out.dl]; exact this)
        have h1 : Own w0 _ ((gr, .cells #[.int .i64 (Z : Int), .slice AB2 (ns + 1) cb2] 129 (0, 0)) :: (gw, .cells #[.slice AK nk ck, .pointer (some ⟨gr, 0, none⟩)] 91 (0, 0)) :: (g3, .cells #[.int .i64 x, .int .i64 y] 54 (0, 0)) :: (gq, .cells cq 54 (0, 0)) :: (gs, .cells cs 32 (0, 0)) :: (KR ++ (SR2 ++ (zblk Z [g98] ++ (blks G D ++ L))))) := HO.out
        have h2 := h1.rep (L' := (gw, .cells #[.slice AK nk ck, .pointer (some ⟨gr, 0, none⟩)] 91 (0, 0)) :: (gr, .cells #[.int .i64 (Z : Int), .slice AB2 (ns + 1) cb2] 129 (0, 0)) :: (g3, .cells #[.int .i64 x, .int .i64 y] 54 (0, 0)) :: (gq, .cells cq 54 (0, 0)) :: (gs, .cells cs 32 (0, 0)) :: (KR ++ (SR2 ++ ((zblk Z [g98] ++ blks G D) ++ L)))) [] (by classical exact List.perm_iff_count.2 (fun a => by simp only [List.count_append, List.count_cons, List.count_nil, List.append_assoc, List.cons_append, List.nil_append]; ac_rfl))
        have h3 := h2.perm ((((((List.Perm.append_left KR (List.Perm.append_left SR2 (hb.append_right L))).cons _).cons _).cons _).cons _).cons _)
        have h4 := h3.rep (L' := (gw, .cells #[.slice AK nk ck, .pointer (some ⟨gr, 0, none⟩)] 91 (0, 0)) :: (gr, .cells #[.int .i64 (Z : Int), .slice AB2 (ns + 1) cb2] 129 (0, 0)) :: (KR ++ ((SR2 ++ blks (moved G k n g98) (moved D k n (List.replicate Z 0))) ++ L))) [(g3, .cells #[.int .i64 x, .int .i64 y] 54 (0, 0)), (gq, .cells cq 54 (0, 0)), (gs, .cells cs 32 (0, 0)), b] (by classical exact List.perm_iff_count.2 (fun a => by simp only [List.count_append, List.count_cons, List.count_nil, List.append_assoc, List.cons_append, List.nil_append]; ac_rfl))
        have hnk : nk + 1 = n := by
          have h := row_len HKR.out
          rw [kcells_len, HKL.out, List.length_eraseIdx, List.length_take, HS.out.kl] at h
          have hn := HKN.out
          have hNn := HS.out.nle
          rw [Nat.min_eq_right (by omega), if_pos hn] at h
          omega
        have hKe : (K.take n).eraseIdx k = K.eraseIdx k := by rw [List.take_of_length_le (by rw [HS.out.kl]; exact HS.out.nle)]
        have hml := moved_len D k n (List.replicate Z 0) HKN.out (by rw [HS.out.dl]; exact HS.out.nle)
        rw [hnsN] at h4
        refine ⟨rfl, KR, AK, nk, ck, _, _, _, _, _, hnk, rfl, rfl, ⟨?_, ?_, by have := HS.out.nle; omega, HS.out.hN, HS.out.hZ, ⟨⟨moved G k n g98, SR2, rfl, ?_, ?_⟩, ?_⟩, hml.trans HS.out.dl⟩, h4⟩
        · have := HKR.out; rw [HKL.out, hKe] at this; exact this
        · rw [← hKe, ← HKL.out]; have h := row_len HKR.out; rw [kcells_len] at h; omega
        · have := HSR2.out
          rw [HM.out g98] at this
          have e := hml.trans (HS.out.dl.trans hnsN.symm)
          rw [e]
          exact this
        · rw [hml, moved_len G k n _ HKN.out (by rw [HG.out, HS.out.dl]; exact HS.out.nle)]; exact HG.out
        · intro d hd
          unfold moved at hd
          rcases List.mem_append.1 hd with hd | hd
          · exact HS.out.refA.len d (List.mem_of_mem_take (List.mem_of_mem_eraseIdx hd))
          · rcases List.mem_cons.1 hd with rfl | hd
            · simp
            · exact HS.out.refA.len d (List.mem_of_mem_drop hd)
      · have e1 := i_facts hnN
        have f1 := e1.1
        have f2 := e1.2.1
        have f3 := e1.2.2.1
        have f4 := e1.2.2.2.1
        have f5 := e1.2.2.2.2.1
        have f6 := e1.2.2.2.2.2
        have HNI : Aside0 (n < i) := ⟨by have := HNLE.out; omega⟩
        clear hnN e1
        obtain ⟨gz, rfl⟩ : ∃ gz, ZL = [gz] := List.length_eq_one_iff.1 (by rw [HZL.out, if_pos HNI.out])
        have hns : ns = i := by
          have h := row_len HSR.out
          rw [List.length_map, HSL.out, List.length_append, List.length_append, List.length_eraseIdx, List.length_take, List.length_take, HG.out, HDL.out, List.length_drop, HG.out, HDL.out, Nat.min_eq_right HNLE.out, Nat.min_eq_left HNLE.out, if_pos HKN.out] at h
          have := HKN.out
          have := HNI.out
          simp at h
          omega
        have hm : SLs.map (slv Z) = (moved G k n gz).map (slv Z) := by
          rw [HSL.out]
          unfold moved
          have ht : (G.drop n).take (i - n) = G.drop n := List.take_of_length_le (by rw [List.length_drop, HG.out, HDL.out]; exact Nat.le_refl _)
          rw [Nat.min_eq_right HNLE.out, ht]
          rfl
        have HNS := Aside0.mk hns
        have HM := Aside0.mk hm
        clear hns hm HSL HZL
        go_wp2_with (first | ((with_reducible refine gate_dst (N := 18) rfl ?_); refine own_load HO.out rfl (x := .tmp 17) (v := .slice (some ⟨gq, 0, none⟩) n c) rfl (by rfl) (by (repeat (first | exact .head | apply Ext.tail))) huks (by rfl) (by rfl) ?_) | ((with_reducible refine gate_dst (N := 24) rfl ?_); refine own_load HO.out rfl (x := .tmp 23) (v := .pointer (some ⟨gr, 0, none⟩)) rfl (by rfl) (by (repeat (first | exact .head | apply Ext.tail))) hup (by rfl) (by rfl) ?_) | ((with_reducible refine gate_dst (N := 27) rfl ?_); refine own_load HO.out rfl (x := .tmp 26) (v := .slice (some ⟨gs, 0, none⟩) i cS) rfl (by rfl) (by (repeat (first | exact .head | apply Ext.tail))) hull (by rfl) (by rfl) ?_) | ((with_reducible refine gate_dst (N := 44) rfl ?_); refine own_load HO.out rfl (x := .tmp 43) (v := .slice (some ⟨gq, 0, none⟩) n c) rfl (by rfl) (by (repeat (first | exact .head | apply Ext.tail))) huks (by rfl) (by rfl) ?_) | ((with_reducible refine gate_dst (N := 57) rfl ?_); refine own_load HO.out rfl (x := .tmp 56) (v := .pointer (some ⟨gr, 0, none⟩)) rfl (by rfl) (by (repeat (first | exact .head | apply Ext.tail))) hup (by rfl) (by rfl) ?_) | ((with_reducible refine gate_dst (N := 60) rfl ?_); refine own_load HO.out rfl (x := .tmp 59) (v := .int .i64 (Z : Int)) rfl (by rfl) (by (repeat (first | exact .head | apply Ext.tail))) hui (by rfl) (by rfl) ?_) | ((with_reducible refine gate_dst (N := 71) rfl ?_); refine own_load HO.out rfl (x := .tmp 70) (v := .pointer (some ⟨gr, 0, none⟩)) rfl (by rfl) (by (repeat (first | exact .head | apply Ext.tail))) hup (by rfl) (by rfl) ?_) | ((with_reducible refine gate_dst (N := 74) rfl ?_); refine own_load HO.out rfl (x := .tmp 73) (v := .slice (some ⟨gs, 0, none⟩) i cS) rfl (by rfl) (by (repeat (first | exact .head | apply Ext.tail))) hull (by rfl) (by rfl) ?_) | ((with_reducible refine gate_dst (N := 84) rfl ?_); refine own_load HO.out rfl (x := .tmp 83) (v := .pointer (some ⟨gr, 0, none⟩)) rfl (by rfl) (by (repeat (first | exact .head | apply Ext.tail))) hup (by rfl) (by rfl) ?_) | ((with_reducible refine gate_dst (N := 87) rfl ?_); refine own_load HO.out rfl (x := .tmp 86) (v := .slice (some ⟨gs, 0, none⟩) i cS) rfl (by rfl) (by (repeat (first | exact .head | apply Ext.tail))) hull (by rfl) (by rfl) ?_) | ((with_reducible refine gate_dst (N := 94) rfl ?_); refine own_load HO.out rfl (x := .tmp 93) (v := .pointer (some ⟨gr, 0, none⟩)) rfl (by rfl) (by (repeat (first | exact .head | apply Ext.tail))) hup (by rfl) (by rfl) ?_) | ((with_reducible refine gate_dst (N := 97) rfl ?_); refine own_load HO.out rfl (x := .tmp 96) (v := .int .i64 (Z : Int)) rfl (by rfl) (by (repeat (first | exact .head | apply Ext.tail))) hui (by rfl) (by rfl) ?_) | ((with_reducible refine gate_dst (N := 108) rfl ?_); refine own_load HO.out rfl (x := .tmp 107) (v := .pointer (some ⟨gr, 0, none⟩)) rfl (by rfl) (by (repeat (first | exact .head | apply Ext.tail))) hup (by rfl) (by rfl) ?_) | ((with_reducible refine gate_store (p := 104) rfl ?_); refine own_store HO.out rfl (ty := 89) (x := .tmp 104) (y := .tmp 102) (v := .slice AK nk ck) (cs' := #[.slice AK nk ck, .pointer (some ⟨gr, 0, none⟩)]) rfl (by rfl) (by rfl) (by (repeat (first | exact .head | apply Ext.tail))) (by kernel_rfl) (by rfl) (by simp) (by rfl) ?_; intro wc hO_; clear HO; have HO := Aside0.mk hO_; clear hO_) | ((with_reducible refine gate_store (p := 111) rfl ?_); refine own_store HO.out rfl (ty := 127) (x := .tmp 111) (y := .tmp 109) (v := .slice AB ns cb) (cs' := #[.int .i64 (Z : Int), .slice AB ns cb]) rfl (by rfl) (by rfl) (by (repeat (first | exact .head | apply Ext.tail))) (by kernel_rfl) (by rfl) (by simp) (by rfl) ?_; intro wc hO_; clear HO; have HO := Aside0.mk hO_; clear hO_))
        go_ret
        have hnsN := HNS.out
        obtain ⟨b, hb⟩ := moved_perm (G := G) (D := D) (k := k) (n := n) (Z := Z) (g := gz) HG.out HKN.out (by have := HS.out.nle; rw [HS.out.dl]; exact this)
        have h1 : Own w0 _ ((gr, .cells #[.int .i64 (Z : Int), .slice AB ns cb] 129 (0, 0)) :: (gw, .cells #[.slice AK nk ck, .pointer (some ⟨gr, 0, none⟩)] 91 (0, 0)) :: (g3, .cells #[.int .i64 x, .int .i64 y] 54 (0, 0)) :: (gq, .cells cq 54 (0, 0)) :: (gs, .cells cs 32 (0, 0)) :: (KR ++ (SR ++ (zblk Z [gz] ++ (blks G D ++ L))))) := HO.out
        have h2 := h1.rep (L' := (gw, .cells #[.slice AK nk ck, .pointer (some ⟨gr, 0, none⟩)] 91 (0, 0)) :: (gr, .cells #[.int .i64 (Z : Int), .slice AB ns cb] 129 (0, 0)) :: (g3, .cells #[.int .i64 x, .int .i64 y] 54 (0, 0)) :: (gq, .cells cq 54 (0, 0)) :: (gs, .cells cs 32 (0, 0)) :: (KR ++ (SR ++ ((zblk Z [gz] ++ blks G D) ++ L)))) [] (by classical exact List.perm_iff_count.2 (fun a => by simp only [List.count_append, List.count_cons, List.count_nil, List.append_assoc, List.cons_append, List.nil_append]; ac_rfl))
        have h3 := h2.perm ((((((List.Perm.append_left KR (List.Perm.append_left SR (hb.append_right L))).cons _).cons _).cons _).cons _).cons _)
        have h4 := h3.rep (L' := (gw, .cells #[.slice AK nk ck, .pointer (some ⟨gr, 0, none⟩)] 91 (0, 0)) :: (gr, .cells #[.int .i64 (Z : Int), .slice AB ns cb] 129 (0, 0)) :: (KR ++ ((SR ++ blks (moved G k n gz) (moved D k n (List.replicate Z 0))) ++ L))) [(g3, .cells #[.int .i64 x, .int .i64 y] 54 (0, 0)), (gq, .cells cq 54 (0, 0)), (gs, .cells cs 32 (0, 0)), b] (by classical exact List.perm_iff_count.2 (fun a => by simp only [List.count_append, List.count_cons, List.count_nil, List.append_assoc, List.cons_append, List.nil_append]; ac_rfl))
        have hnk : nk + 1 = n := by
          have h := row_len HKR.out
          rw [kcells_len, HKL.out, List.length_eraseIdx, List.length_take, HS.out.kl] at h
          have hn := HKN.out
          have hNn := HS.out.nle
          rw [Nat.min_eq_right (by omega), if_pos hn] at h
          omega
        have hKe : (K.take i).eraseIdx k = K.eraseIdx k := by rw [List.take_of_length_le (by rw [HS.out.kl]; exact HS.out.nle)]
        have hml := moved_len D k n (List.replicate Z 0) HKN.out (by rw [HS.out.dl]; exact HS.out.nle)
        rw [hnsN] at h4
        refine ⟨rfl, KR, AK, nk, ck, _, _, _, _, _, hnk, rfl, rfl, ⟨?_, ?_, by have := HS.out.nle; omega, HS.out.hN, HS.out.hZ, ⟨⟨moved G k n gz, SR, rfl, ?_, ?_⟩, ?_⟩, hml.trans HS.out.dl⟩, h4⟩
        · have := HKR.out; rw [HKL.out, hKe] at this; exact this
        · rw [← hKe, ← HKL.out]; have h := row_len HKR.out; rw [kcells_len] at h; omega
        · have := HSR.out
          rw [HM.out] at this
          have e := hml.trans (HS.out.dl.trans hnsN.symm)
          rw [e]
          exact this
        · rw [hml, moved_len G k n _ HKN.out (by rw [HG.out, HS.out.dl]; exact HS.out.nle)]; exact HG.out
        · intro d hd
          unfold moved at hd
          rcases List.mem_append.1 hd with hd | hd
          · exact HS.out.refA.len d (List.mem_of_mem_take (List.mem_of_mem_eraseIdx hd))
          · rcases List.mem_cons.1 hd with rfl | hd
            · simp
            · exact HS.out.refA.len d (List.mem_of_mem_drop hd)
    | succ m =>
      have hiN : i < N := by have := HI.out; omega
      have hiG : i < G.length := by rw [HG.out, HS.out.dl]; exact hiN
      have d1 : decide ((i : Int) < (N : Int)) = true := decide_eq_true (by omega)
      have d1n : decide (i < N) = true := decide_eq_true hiN
      have hiw := w12 (x := (i : Int) + 1) (y := ((i + 1 : Nat) : Int)) (by omega) (by have := HS.out.hN; omega)
      have p1 := eq_true (show 0 ≤ (i : Int) by omega)
      have q1 := eq_true (show (i : Int) < (N : Int) by omega)
      have q1n := eq_true hiN
      have HSC := Aside0.mk (HSCS.out i hiG)
      obtain ⟨gi, hgi⟩ : ∃ gi, G[i] = gi := ⟨_, rfl⟩
      rw [hgi] at HSC
      have HGI : Aside0 (G[i]? = some gi) := ⟨by rw [List.getElem?_eq_getElem hiG, hgi]⟩
      have u1 := hiw.out.1
      have u1b := hiw.out.2
      have HKl := Aside0.mk HS.out.kl
      have HNLE := Aside0.mk HS.out.nle
      have hGi : G[i]'hiG = gi := hgi
      have HHG := Aside0.mk hiG
      clear hgi HSCS
      by_cases hlt : i < n
      · obtain rfl : ZL = [] := List.length_eq_zero_iff.1 (by rw [HZL.out, if_neg (by omega)])
        have hin : ¬ i = n := by omega
        have e1 := i_facts hin
        have f1 := e1.1
        have f2 := e1.2.1
        have f3 := e1.2.2.1
        have f4 := e1.2.2.2.1
        have g1 : decide ((i : Int) < (n : Int)) = true := decide_eq_true (by omega)
        have g2 : decide (i < n) = true := decide_eq_true hlt
        have p2 := eq_true (show (i : Int) < (n : Int) by omega)
        have p3 := eq_true hlt
        by_cases hik : i = k
        · subst hik
          have HS2 := Aside0.mk (HSL.out.trans (sl_same G i n hlt hiG).symm)
          have HK2 := Aside0.mk (HKL.out.trans (take_erase_same K i (by rw [HKl.out]; exact hlt)).symm)
          have HLT := Aside0.mk hlt
          clear hlt hin e1 hGi hiG HSL HKL hiN
          go_wp2_with (first | ((with_reducible refine gate_dst (N := 18) rfl ?_); refine own_load HO.out rfl (x := .tmp 17) (v := .slice (some ⟨gq, 0, none⟩) n c) rfl (by rfl) (by (repeat (first | exact .head | apply Ext.tail))) huks (by rfl) (by rfl) ?_) | ((with_reducible refine gate_dst (N := 24) rfl ?_); refine own_load HO.out rfl (x := .tmp 23) (v := .pointer (some ⟨gr, 0, none⟩)) rfl (by rfl) (by (repeat (first | exact .head | apply Ext.tail))) hup (by rfl) (by rfl) ?_) | ((with_reducible refine gate_dst (N := 27) rfl ?_); refine own_load HO.out rfl (x := .tmp 26) (v := .slice (some ⟨gs, 0, none⟩) N cS) rfl (by rfl) (by (repeat (first | exact .head | apply Ext.tail))) hull (by rfl) (by rfl) ?_) | ((with_reducible refine gate_dst (N := 44) rfl ?_); refine own_load HO.out rfl (x := .tmp 43) (v := .slice (some ⟨gq, 0, none⟩) n c) rfl (by rfl) (by (repeat (first | exact .head | apply Ext.tail))) huks (by rfl) (by rfl) ?_) | ((with_reducible refine gate_dst (N := 57) rfl ?_); refine own_load HO.out rfl (x := .tmp 56) (v := .pointer (some ⟨gr, 0, none⟩)) rfl (by rfl) (by (repeat (first | exact .head | apply Ext.tail))) hup (by rfl) (by rfl) ?_) | ((with_reducible refine gate_dst (N := 60) rfl ?_); refine own_load HO.out rfl (x := .tmp 59) (v := .int .i64 (Z : Int)) rfl (by rfl) (by (repeat (first | exact .head | apply Ext.tail))) hui (by rfl) (by rfl) ?_) | ((with_reducible refine gate_dst (N := 71) rfl ?_); refine own_load HO.out rfl (x := .tmp 70) (v := .pointer (some ⟨gr, 0, none⟩)) rfl (by rfl) (by (repeat (first | exact .head | apply Ext.tail))) hup (by rfl) (by rfl) ?_) | ((with_reducible refine gate_dst (N := 74) rfl ?_); refine own_load HO.out rfl (x := .tmp 73) (v := .slice (some ⟨gs, 0, none⟩) N cS) rfl (by rfl) (by (repeat (first | exact .head | apply Ext.tail))) hull (by rfl) (by rfl) ?_) | ((with_reducible refine gate_dst (N := 84) rfl ?_); refine own_load HO.out rfl (x := .tmp 83) (v := .pointer (some ⟨gr, 0, none⟩)) rfl (by rfl) (by (repeat (first | exact .head | apply Ext.tail))) hup (by rfl) (by rfl) ?_) | ((with_reducible refine gate_dst (N := 87) rfl ?_); refine own_load HO.out rfl (x := .tmp 86) (v := .slice (some ⟨gs, 0, none⟩) N cS) rfl (by rfl) (by (repeat (first | exact .head | apply Ext.tail))) hull (by rfl) (by rfl) ?_) | ((with_reducible refine gate_dst (N := 94) rfl ?_); refine own_load HO.out rfl (x := .tmp 93) (v := .pointer (some ⟨gr, 0, none⟩)) rfl (by rfl) (by (repeat (first | exact .head | apply Ext.tail))) hup (by rfl) (by rfl) ?_) | ((with_reducible refine gate_dst (N := 97) rfl ?_); refine own_load HO.out rfl (x := .tmp 96) (v := .int .i64 (Z : Int)) rfl (by rfl) (by (repeat (first | exact .head | apply Ext.tail))) hui (by rfl) (by rfl) ?_) | ((with_reducible refine gate_dst (N := 108) rfl ?_); refine own_load HO.out rfl (x := .tmp 107) (v := .pointer (some ⟨gr, 0, none⟩)) rfl (by rfl) (by (repeat (first | exact .head | apply Ext.tail))) hup (by rfl) (by rfl) ?_))
          go_roundg m
          case measure => clear u1 u1b; omega
          case rel => exact ⟨i + 1, nk, ck, ns, cb, AK, AB, KR, SR, KL, SLs, [], rfl, rfl, rfl, ⟨by clear u1 u1b; have := HI.out; omega⟩, HK2, HS2, ⟨by rw [if_neg (by have := HLT.out; omega)]; rfl⟩, HKR, HSR, HO⟩
        · have e2 := i_facts hik
          have s1 := e2.1
          have s2 := e2.2.1
          have s3 := e2.2.2.1
          have s4 := e2.2.2.2.1
          have s5 := e2.2.2.2.2.1
          have s6 := e2.2.2.2.2.2
          have hiK : i < K.length := by rw [HKl.out]; exact hlt
          have HKC := Aside0.mk (take_two HTK.out hiK hlt)
          have hS2 := sl_lt G i k n hlt hik hiG
          rw [← HSL.out, hGi] at hS2
          have hK2 := take_erase_next K i k hiK hik (by omega)
          rw [← HKL.out] at hK2
          obtain ⟨k1, k2, hkk⟩ : ∃ k1 k2, K[i]'hiK = (k1, k2) := ⟨_, _, rfl⟩
          rw [hkk] at HKC hK2
          have HS2 := Aside0.mk hS2.symm
          have HK2 := Aside0.mk hK2.symm
          have HLT := Aside0.mk hlt
          clear hlt hin e1 e2 hik hGi hiG HSL HKL hiN hiK hS2 hK2 hkk
          go_wp2_with (first | ((with_reducible refine gate_dst (N := 18) rfl ?_); refine own_load HO.out rfl (x := .tmp 17) (v := .slice (some ⟨gq, 0, none⟩) n c) rfl (by rfl) (by (repeat (first | exact .head | apply Ext.tail))) huks (by rfl) (by rfl) ?_) | ((with_reducible refine gate_dst (N := 24) rfl ?_); refine own_load HO.out rfl (x := .tmp 23) (v := .pointer (some ⟨gr, 0, none⟩)) rfl (by rfl) (by (repeat (first | exact .head | apply Ext.tail))) hup (by rfl) (by rfl) ?_) | ((with_reducible refine gate_dst (N := 27) rfl ?_); refine own_load HO.out rfl (x := .tmp 26) (v := .slice (some ⟨gs, 0, none⟩) N cS) rfl (by rfl) (by (repeat (first | exact .head | apply Ext.tail))) hull (by rfl) (by rfl) ?_) | ((with_reducible refine gate_dst (N := 44) rfl ?_); refine own_load HO.out rfl (x := .tmp 43) (v := .slice (some ⟨gq, 0, none⟩) n c) rfl (by rfl) (by (repeat (first | exact .head | apply Ext.tail))) huks (by rfl) (by rfl) ?_) | ((with_reducible refine gate_dst (N := 57) rfl ?_); refine own_load HO.out rfl (x := .tmp 56) (v := .pointer (some ⟨gr, 0, none⟩)) rfl (by rfl) (by (repeat (first | exact .head | apply Ext.tail))) hup (by rfl) (by rfl) ?_) | ((with_reducible refine gate_dst (N := 60) rfl ?_); refine own_load HO.out rfl (x := .tmp 59) (v := .int .i64 (Z : Int)) rfl (by rfl) (by (repeat (first | exact .head | apply Ext.tail))) hui (by rfl) (by rfl) ?_) | ((with_reducible refine gate_dst (N := 71) rfl ?_); refine own_load HO.out rfl (x := .tmp 70) (v := .pointer (some ⟨gr, 0, none⟩)) rfl (by rfl) (by (repeat (first | exact .head | apply Ext.tail))) hup (by rfl) (by rfl) ?_) | ((with_reducible refine gate_dst (N := 74) rfl ?_); refine own_load HO.out rfl (x := .tmp 73) (v := .slice (some ⟨gs, 0, none⟩) N cS) rfl (by rfl) (by (repeat (first | exact .head | apply Ext.tail))) hull (by rfl) (by rfl) ?_) | ((with_reducible refine gate_dst (N := 84) rfl ?_); refine own_load HO.out rfl (x := .tmp 83) (v := .pointer (some ⟨gr, 0, none⟩)) rfl (by rfl) (by (repeat (first | exact .head | apply Ext.tail))) hup (by rfl) (by rfl) ?_) | ((with_reducible refine gate_dst (N := 87) rfl ?_); refine own_load HO.out rfl (x := .tmp 86) (v := .slice (some ⟨gs, 0, none⟩) N cS) rfl (by rfl) (by (repeat (first | exact .head | apply Ext.tail))) hull (by rfl) (by rfl) ?_) | ((with_reducible refine gate_dst (N := 94) rfl ?_); refine own_load HO.out rfl (x := .tmp 93) (v := .pointer (some ⟨gr, 0, none⟩)) rfl (by rfl) (by (repeat (first | exact .head | apply Ext.tail))) hup (by rfl) (by rfl) ?_) | ((with_reducible refine gate_dst (N := 97) rfl ?_); refine own_load HO.out rfl (x := .tmp 96) (v := .int .i64 (Z : Int)) rfl (by rfl) (by (repeat (first | exact .head | apply Ext.tail))) hui (by rfl) (by rfl) ?_) | ((with_reducible refine gate_dst (N := 108) rfl ?_); refine own_load HO.out rfl (x := .tmp 107) (v := .pointer (some ⟨gr, 0, none⟩)) rfl (by rfl) (by (repeat (first | exact .head | apply Ext.tail))) hup (by rfl) (by rfl) ?_) | ((with_reducible refine gate_dst (N := 47) rfl ?_); refine own_loadN HO.out rfl (x := .tmp 46) rfl (by rfl) (by (repeat (first | exact .head | apply Ext.tail))) (vs := [.int .i64 k1, .int .i64 k2]) HKC.out huk (by rfl) (by kernel_rfl) (va := #[.int .i64 k1, .int .i64 k2]) rfl ?_) | ((with_reducible refine gate_dst (N := 48) rfl ?_); refine own_lit HO.out rfl (N := 48) rfl (cs := #[.int .i64 k1, .int .i64 k2]) (t := 54) (n := 1) (m := 1) (by first | (go_simp; done) | (go_simp; rfl) | kernel_rfl) ?_; intro g48 w48 hO_; clear HO; have HO := Aside0.mk hO_; clear hO_) | ((with_reducible refine gate_dst (N := 49) rfl ?_); refine own_append (z := .agg #[.int .i64 0, .int .i64 0]) (size := 2) (bytes := 16) (R := KR) (L := SR ++ (zblk Z [] ++ (blks G D ++ L))) ((g48, .cells #[.int .i64 k1, .int .i64 k2] 54 (0, 0)) :: (g3, .cells #[.int .i64 x, .int .i64 y] 54 (0, 0)) :: (gw, .cells #[.slice (some ⟨gq, 0, none⟩) n c, .pointer (some ⟨gr, 0, none⟩)] 91 (0, 0)) :: (gr, .cells #[.int .i64 (Z : Int), .slice (some ⟨gs, 0, none⟩) N cS] 129 (0, 0)) :: (gq, .cells cq 54 (0, 0)) :: (gs, .cells cs 32 (0, 0)) :: []) HO.out rfl rfl huks (by kernel_rfl) rfl (by rfl) HKR.out (by rfl) (HO.out.src huks .head 0 1 1 [.int .i64 k1, .int .i64 k2] rfl rfl (by simp [Value.oneCell', slv])) (by have := HBD.out; show nk + 1 ≤ 9223372036854775807; omega) (by have := HBD.out; omega) ?_; intro v2 KR2 wc hR2 hO_; obtain ⟨AK2, ck2, rfl⟩ := RowOf.shape hR2; have HKR2 := Aside0.mk hR2; clear hR2; have hO_ : Own w0 wc ((g3, .cells #[.int .i64 x, .int .i64 y] 54 (0, 0)) :: (gw, .cells #[.slice (some ⟨gq, 0, none⟩) n c, .pointer (some ⟨gr, 0, none⟩)] 91 (0, 0)) :: (gr, .cells #[.int .i64 (Z : Int), .slice (some ⟨gs, 0, none⟩) N cS] 129 (0, 0)) :: (gq, .cells cq 54 (0, 0)) :: (gs, .cells cs 32 (0, 0)) :: (KR2 ++ (SR ++ (zblk Z [] ++ (blks G D ++ L))))) := hO_.drop; clear HO; have HO := Aside0.mk hO_; clear hO_) | ((with_reducible refine gate_dst (N := 77) rfl ?_); refine own_load HO.out rfl (x := .tmp 76) (v := slv Z gi) rfl (by rfl) (by (repeat (first | exact .head | apply Ext.tail))) hul (by rfl) HSC.out ?_) | ((with_reducible refine gate_dst (N := 78) rfl ?_); refine own_lit HO.out rfl (N := 78) rfl (cs := #[slv Z gi]) (t := 32) (n := 1) (m := 1) (by first | (go_simp; done) | (go_simp; rfl) | kernel_rfl) ?_; intro g78 w78 hO_; clear HO; have HO := Aside0.mk hO_; clear hO_) | ((with_reducible refine gate_dst (N := 79) rfl ?_); refine own_append (z := .slice none 0 0) (size := 1) (bytes := 24) (R := SR) (L := zblk Z [] ++ (blks G D ++ L)) ((g78, .cells #[slv Z gi] 32 (0, 0)) :: (g3, .cells #[.int .i64 x, .int .i64 y] 54 (0, 0)) :: (gw, .cells #[.slice (some ⟨gq, 0, none⟩) n c, .pointer (some ⟨gr, 0, none⟩)] 91 (0, 0)) :: (gr, .cells #[.int .i64 (Z : Int), .slice (some ⟨gs, 0, none⟩) N cS] 129 (0, 0)) :: (gq, .cells cq 54 (0, 0)) :: (gs, .cells cs 32 (0, 0)) :: KR2) HO.out rfl rfl hull (by kernel_rfl) rfl (by rfl) HSR.out (by rfl) (HO.out.src hull .head 0 1 1 [slv Z gi] rfl rfl (by simp [Value.oneCell', slv])) (by have := HBD.out; show ns + 1 ≤ 9223372036854775807; omega) (by have := HBD.out; omega) ?_; intro v2 SR2 wc hR2 hO_; obtain ⟨AB2, cb2, rfl⟩ := RowOf.shape hR2; have HSR2 := Aside0.mk hR2; clear hR2; have hO_ : Own w0 wc ((g3, .cells #[.int .i64 x, .int .i64 y] 54 (0, 0)) :: (gw, .cells #[.slice (some ⟨gq, 0, none⟩) n c, .pointer (some ⟨gr, 0, none⟩)] 91 (0, 0)) :: (gr, .cells #[.int .i64 (Z : Int), .slice (some ⟨gs, 0, none⟩) N cS] 129 (0, 0)) :: (gq, .cells cq 54 (0, 0)) :: (gs, .cells cs 32 (0, 0)) :: (KR2 ++ (SR2 ++ (zblk Z [] ++ (blks G D ++ L))))) := hO_.drop; clear HO; have HO := Aside0.mk hO_; clear hO_))
          go_roundg m
          case measure => clear u1 u1b; omega
          case rel => exact ⟨i + 1, nk + 1, ck2, ns + 1, cb2, AK2, AB2, KR2, SR2, KL ++ [(k1, k2)], SLs ++ [gi], [], rfl, rfl, rfl, ⟨by clear u1 u1b; have := HI.out; omega⟩, HK2, HS2, ⟨by rw [if_neg (by have := HLT.out; omega)]; rfl⟩, ⟨by rw [kcells_put]; exact HKR2.out⟩, ⟨by rw [List.map_append]; exact HSR2.out⟩, HO⟩
      · have g1 : decide ((i : Int) < (n : Int)) = false := decide_eq_false (by omega)
        have g2 : decide (i < n) = false := decide_eq_false hlt
        have hik : ¬ i = k := by have := HKN.out; omega
        have e2 := i_facts hik
        have s1 := e2.1
        have s2 := e2.2.1
        have s3 := e2.2.2.1
        have s4 := e2.2.2.2.1
        have s5 := e2.2.2.2.2.1
        have s6 := e2.2.2.2.2.2
        have HK2 : Aside0 (KL = (K.take (i + 1)).eraseIdx k) := ⟨by rw [HKL.out, List.take_of_length_le (by rw [HKl.out]; omega), List.take_of_length_le (by rw [HKl.out]; omega)]⟩
        by_cases hin : i = n
        · subst hin
          obtain rfl : ZL = [] := List.length_eq_zero_iff.1 (by rw [HZL.out, if_neg (by omega)])
          have HSX : Aside0 (∀ g, (G.take (min (i + 1) i)).eraseIdx k ++ ([g] ++ (G.drop i).take (i + 1 - i)) = ((G.take (min i i)).eraseIdx k ++ ([g] ++ (G.drop i).take (i - i))) ++ [gi]) := ⟨fun g => by rw [← hGi]; exact sl_ge G [g] i k i (Nat.le_refl _) hiG⟩
          have HSY := Aside0.mk HSL.out
          clear hlt hik e2 hGi hiG HSL HKL hiN
          go_wp2_with (first | ((with_reducible refine gate_dst (N := 18) rfl ?_); refine own_load HO.out rfl (x := .tmp 17) (v := .slice (some ⟨gq, 0, none⟩) i c) rfl (by rfl) (by (repeat (first | exact .head | apply Ext.tail))) huks (by rfl) (by rfl) ?_) | ((with_reducible refine gate_dst (N := 24) rfl ?_); refine own_load HO.out rfl (x := .tmp 23) (v := .pointer (some ⟨gr, 0, none⟩)) rfl (by rfl) (by (repeat (first | exact .head | apply Ext.tail))) hup (by rfl) (by rfl) ?_) | ((with_reducible refine gate_dst (N := 27) rfl ?_); refine own_load HO.out rfl (x := .tmp 26) (v := .slice (some ⟨gs, 0, none⟩) N cS) rfl (by rfl) (by (repeat (first | exact .head | apply Ext.tail))) hull (by rfl) (by rfl) ?_) | ((with_reducible refine gate_dst (N := 44) rfl ?_); refine own_load HO.out rfl (x := .tmp 43) (v := .slice (some ⟨gq, 0, none⟩) i c) rfl (by rfl) (by (repeat (first | exact .head | apply Ext.tail))) huks (by rfl) (by rfl) ?_) | ((with_reducible refine gate_dst (N := 57) rfl ?_); refine own_load HO.out rfl (x := .tmp 56) (v := .pointer (some ⟨gr, 0, none⟩)) rfl (by rfl) (by (repeat (first | exact .head | apply Ext.tail))) hup (by rfl) (by rfl) ?_) | ((with_reducible refine gate_dst (N := 60) rfl ?_); refine own_load HO.out rfl (x := .tmp 59) (v := .int .i64 (Z : Int)) rfl (by rfl) (by (repeat (first | exact .head | apply Ext.tail))) hui (by rfl) (by rfl) ?_) | ((with_reducible refine gate_dst (N := 71) rfl ?_); refine own_load HO.out rfl (x := .tmp 70) (v := .pointer (some ⟨gr, 0, none⟩)) rfl (by rfl) (by (repeat (first | exact .head | apply Ext.tail))) hup (by rfl) (by rfl) ?_) | ((with_reducible refine gate_dst (N := 74) rfl ?_); refine own_load HO.out rfl (x := .tmp 73) (v := .slice (some ⟨gs, 0, none⟩) N cS) rfl (by rfl) (by (repeat (first | exact .head | apply Ext.tail))) hull (by rfl) (by rfl) ?_) | ((with_reducible refine gate_dst (N := 84) rfl ?_); refine own_load HO.out rfl (x := .tmp 83) (v := .pointer (some ⟨gr, 0, none⟩)) rfl (by rfl) (by (repeat (first | exact .head | apply Ext.tail))) hup (by rfl) (by rfl) ?_) | ((with_reducible refine gate_dst (N := 87) rfl ?_); refine own_load HO.out rfl (x := .tmp 86) (v := .slice (some ⟨gs, 0, none⟩) N cS) rfl (by rfl) (by (repeat (first | exact .head | apply Ext.tail))) hull (by rfl) (by rfl) ?_) | ((with_reducible refine gate_dst (N := 94) rfl ?_); refine own_load HO.out rfl (x := .tmp 93) (v := .pointer (some ⟨gr, 0, none⟩)) rfl (by rfl) (by (repeat (first | exact .head | apply Ext.tail))) hup (by rfl) (by rfl) ?_) | ((with_reducible refine gate_dst (N := 97) rfl ?_); refine own_load HO.out rfl (x := .tmp 96) (v := .int .i64 (Z : Int)) rfl (by rfl) (by (repeat (first | exact .head | apply Ext.tail))) hui (by rfl) (by rfl) ?_) | ((with_reducible refine gate_dst (N := 108) rfl ?_); refine own_load HO.out rfl (x := .tmp 107) (v := .pointer (some ⟨gr, 0, none⟩)) rfl (by rfl) (by (repeat (first | exact .head | apply Ext.tail))) hup (by rfl) (by rfl) ?_) | ((with_reducible refine gate_dst (N := 61) rfl ?_); refine own_make (z := .int .u8 0) (size := 1) (bytes := 1) (n := Z) HO.out rfl rfl hul (by kernel_rfl) rfl (by rfl) (by rfl) (by have := HS.out.hZ; omega) (by have := HS.out.hZ; show Z ≤ 9223372036854775807; omega) (made_u8 Z) ?_; intro g61 w61 hO_; clear HO; have HO := Aside0.mk hO_; clear hO_) | ((with_reducible refine gate_dst (N := 62) rfl ?_); refine own_lit HO.out rfl (N := 62) rfl (cs := #[slv Z g61]) (t := 32) (n := 1) (m := 1) (by first | (go_simp; done) | (go_simp; rfl) | kernel_rfl) ?_; intro g62 w62 hO_; clear HO; have HO := Aside0.mk hO_; clear hO_) | ((with_reducible refine gate_dst (N := 63) rfl ?_); refine own_append (z := .slice none 0 0) (size := 1) (bytes := 24) (R := SR) (L := zblk Z [] ++ (blks G D ++ L)) ((g62, .cells #[slv Z g61] 32 (0, 0)) :: (g61, .cells (u8s (List.replicate Z 0)) 5 (0, 0)) :: (g3, .cells #[.int .i64 x, .int .i64 y] 54 (0, 0)) :: (gw, .cells #[.slice (some ⟨gq, 0, none⟩) i c, .pointer (some ⟨gr, 0, none⟩)] 91 (0, 0)) :: (gr, .cells #[.int .i64 (Z : Int), .slice (some ⟨gs, 0, none⟩) N cS] 129 (0, 0)) :: (gq, .cells cq 54 (0, 0)) :: (gs, .cells cs 32 (0, 0)) :: KR) HO.out rfl rfl hull (by kernel_rfl) rfl (by rfl) HSR.out (by rfl) (HO.out.src hull .head 0 1 1 [slv Z g61] rfl rfl (by simp [Value.oneCell', slv])) (by have := HBD.out; show ns + 1 ≤ 9223372036854775807; omega) (by have := HBD.out; omega) ?_; intro v2 SR2 wc hR2 hO_; obtain ⟨AB2, cb2, rfl⟩ := RowOf.shape hR2; have HSR2 := Aside0.mk hR2; clear hR2; have hO_ : Own w0 wc ((g3, .cells #[.int .i64 x, .int .i64 y] 54 (0, 0)) :: (gw, .cells #[.slice (some ⟨gq, 0, none⟩) i c, .pointer (some ⟨gr, 0, none⟩)] 91 (0, 0)) :: (gr, .cells #[.int .i64 (Z : Int), .slice (some ⟨gs, 0, none⟩) N cS] 129 (0, 0)) :: (gq, .cells cq 54 (0, 0)) :: (gs, .cells cs 32 (0, 0)) :: (KR ++ (SR2 ++ ((g61, .cells (u8s (List.replicate Z 0)) 5 (0, 0)) :: (blks G D ++ L))))) := (show Own w0 wc ((g62, .cells #[slv Z g61] 32 (0, 0)) :: (g61, .cells (u8s (List.replicate Z 0)) 5 (0, 0)) :: (g3, .cells #[.int .i64 x, .int .i64 y] 54 (0, 0)) :: (gw, .cells #[.slice (some ⟨gq, 0, none⟩) i c, .pointer (some ⟨gr, 0, none⟩)] 91 (0, 0)) :: (gr, .cells #[.int .i64 (Z : Int), .slice (some ⟨gs, 0, none⟩) N cS] 129 (0, 0)) :: (gq, .cells cq 54 (0, 0)) :: (gs, .cells cs 32 (0, 0)) :: (KR ++ (SR2 ++ (blks G D ++ L)))) from hO_).rep [(g62, .cells #[slv Z g61] 32 (0, 0))] (by classical exact List.perm_iff_count.2 (fun a => by simp only [List.count_append, List.count_cons, List.count_nil, List.append_assoc, List.cons_append, List.nil_append]; ac_rfl)); have hO_ : Own w0 wc ((g3, .cells #[.int .i64 x, .int .i64 y] 54 (0, 0)) :: (gw, .cells #[.slice (some ⟨gq, 0, none⟩) i c, .pointer (some ⟨gr, 0, none⟩)] 91 (0, 0)) :: (gr, .cells #[.int .i64 (Z : Int), .slice (some ⟨gs, 0, none⟩) N cS] 129 (0, 0)) :: (gq, .cells cq 54 (0, 0)) :: (gs, .cells cs 32 (0, 0)) :: (KR ++ (SR2 ++ (zblk Z [g61] ++ (blks G D ++ L))))) := hO_; clear HO; have HO := Aside0.mk hO_; clear hO_) | ((with_reducible refine gate_dst (N := 77) rfl ?_); refine own_load HO.out rfl (x := .tmp 76) (v := slv Z gi) rfl (by rfl) (by (repeat (first | exact .head | apply Ext.tail))) hul (by rfl) HSC.out ?_) | ((with_reducible refine gate_dst (N := 78) rfl ?_); refine own_lit HO.out rfl (N := 78) rfl (cs := #[slv Z gi]) (t := 32) (n := 1) (m := 1) (by first | (go_simp; done) | (go_simp; rfl) | kernel_rfl) ?_; intro g78 w78 hO_; clear HO; have HO := Aside0.mk hO_; clear hO_) | ((with_reducible refine gate_dst (N := 79) rfl ?_); refine own_append (z := .slice none 0 0) (size := 1) (bytes := 24) (R := SR2) (L := zblk Z [g61] ++ (blks G D ++ L)) ((g78, .cells #[slv Z gi] 32 (0, 0)) :: (g3, .cells #[.int .i64 x, .int .i64 y] 54 (0, 0)) :: (gw, .cells #[.slice (some ⟨gq, 0, none⟩) i c, .pointer (some ⟨gr, 0, none⟩)] 91 (0, 0)) :: (gr, .cells #[.int .i64 (Z : Int), .slice (some ⟨gs, 0, none⟩) N cS] 129 (0, 0)) :: (gq, .cells cq 54 (0, 0)) :: (gs, .cells cs 32 (0, 0)) :: KR) HO.out rfl rfl hull (by kernel_rfl) rfl (by rfl) HSR2.out (by rfl) (HO.out.src hull .head 0 1 1 [slv Z gi] rfl rfl (by simp [Value.oneCell', slv])) (by have := HBD.out; show (ns + 1) + 1 ≤ 9223372036854775807; omega) (by have := HBD.out; omega) ?_; intro v2 SR3 wc hR2 hO_; obtain ⟨AB3, cb3, rfl⟩ := RowOf.shape hR2; have HSR3 := Aside0.mk hR2; clear hR2; have hO_ : Own w0 wc ((g3, .cells #[.int .i64 x, .int .i64 y] 54 (0, 0)) :: (gw, .cells #[.slice (some ⟨gq, 0, none⟩) i c, .pointer (some ⟨gr, 0, none⟩)] 91 (0, 0)) :: (gr, .cells #[.int .i64 (Z : Int), .slice (some ⟨gs, 0, none⟩) N cS] 129 (0, 0)) :: (gq, .cells cq 54 (0, 0)) :: (gs, .cells cs 32 (0, 0)) :: (KR ++ (SR3 ++ (zblk Z [g61] ++ (blks G D ++ L))))) := hO_.drop; clear HO; have HO := Aside0.mk hO_; clear hO_))
          go_roundg m
          case measure => clear u1 u1b; omega
          case rel => exact ⟨i + 1, nk, ck, ns + 1 + 1, cb3, AK, AB3, KR, SR3, KL, (SLs ++ [g61]) ++ [gi], [g61], rfl, rfl, rfl, ⟨by clear u1 u1b; have := HI.out; omega⟩, HK2, ⟨by rw [HSX.out g61, HSY.out, Nat.sub_self]; simp⟩, ⟨by rw [if_pos (Nat.lt_succ_self _)]; rfl⟩, HKR, ⟨by rw [List.map_append, List.map_append]; exact HSR3.out⟩, HO⟩
        · have e1 := i_facts hin
          have f1 := e1.1
          have f2 := e1.2.1
          have f3 := e1.2.2.1
          have f4 := e1.2.2.2.1
          have hni : n < i := by omega
          have hS2 := sl_ge G ZL i k n (by omega) hiG
          rw [← HSL.out, hGi] at hS2
          have HS2 := Aside0.mk hS2.symm
          have HZ2 : Aside0 (ZL.length = if n < i + 1 then 1 else 0) := ⟨by rw [HZL.out, if_pos hni, if_pos (by omega)]⟩
          clear hlt hin e1 e2 hik hGi hiG HSL HKL hiN hS2 HZL hni
          go_wp2_with (first | ((with_reducible refine gate_dst (N := 18) rfl ?_); refine own_load HO.out rfl (x := .tmp 17) (v := .slice (some ⟨gq, 0, none⟩) n c) rfl (by rfl) (by (repeat (first | exact .head | apply Ext.tail))) huks (by rfl) (by rfl) ?_) | ((with_reducible refine gate_dst (N := 24) rfl ?_); refine own_load HO.out rfl (x := .tmp 23) (v := .pointer (some ⟨gr, 0, none⟩)) rfl (by rfl) (by (repeat (first | exact .head | apply Ext.tail))) hup (by rfl) (by rfl) ?_) | ((with_reducible refine gate_dst (N := 27) rfl ?_); refine own_load HO.out rfl (x := .tmp 26) (v := .slice (some ⟨gs, 0, none⟩) N cS) rfl (by rfl) (by (repeat (first | exact .head | apply Ext.tail))) hull (by rfl) (by rfl) ?_) | ((with_reducible refine gate_dst (N := 44) rfl ?_); refine own_load HO.out rfl (x := .tmp 43) (v := .slice (some ⟨gq, 0, none⟩) n c) rfl (by rfl) (by (repeat (first | exact .head | apply Ext.tail))) huks (by rfl) (by rfl) ?_) | ((with_reducible refine gate_dst (N := 57) rfl ?_); refine own_load HO.out rfl (x := .tmp 56) (v := .pointer (some ⟨gr, 0, none⟩)) rfl (by rfl) (by (repeat (first | exact .head | apply Ext.tail))) hup (by rfl) (by rfl) ?_) | ((with_reducible refine gate_dst (N := 60) rfl ?_); refine own_load HO.out rfl (x := .tmp 59) (v := .int .i64 (Z : Int)) rfl (by rfl) (by (repeat (first | exact .head | apply Ext.tail))) hui (by rfl) (by rfl) ?_) | ((with_reducible refine gate_dst (N := 71) rfl ?_); refine own_load HO.out rfl (x := .tmp 70) (v := .pointer (some ⟨gr, 0, none⟩)) rfl (by rfl) (by (repeat (first | exact .head | apply Ext.tail))) hup (by rfl) (by rfl) ?_) | ((with_reducible refine gate_dst (N := 74) rfl ?_); refine own_load HO.out rfl (x := .tmp 73) (v := .slice (some ⟨gs, 0, none⟩) N cS) rfl (by rfl) (by (repeat (first | exact .head | apply Ext.tail))) hull (by rfl) (by rfl) ?_) | ((with_reducible refine gate_dst (N := 84) rfl ?_); refine own_load HO.out rfl (x := .tmp 83) (v := .pointer (some ⟨gr, 0, none⟩)) rfl (by rfl) (by (repeat (first | exact .head | apply Ext.tail))) hup (by rfl) (by rfl) ?_) | ((with_reducible refine gate_dst (N := 87) rfl ?_); refine own_load HO.out rfl (x := .tmp 86) (v := .slice (some ⟨gs, 0, none⟩) N cS) rfl (by rfl) (by (repeat (first | exact .head | apply Ext.tail))) hull (by rfl) (by rfl) ?_) | ((with_reducible refine gate_dst (N := 94) rfl ?_); refine own_load HO.out rfl (x := .tmp 93) (v := .pointer (some ⟨gr, 0, none⟩)) rfl (by rfl) (by (repeat (first | exact .head | apply Ext.tail))) hup (by rfl) (by rfl) ?_) | ((with_reducible refine gate_dst (N := 97) rfl ?_); refine own_load HO.out rfl (x := .tmp 96) (v := .int .i64 (Z : Int)) rfl (by rfl) (by (repeat (first | exact .head | apply Ext.tail))) hui (by rfl) (by rfl) ?_) | ((with_reducible refine gate_dst (N := 108) rfl ?_); refine own_load HO.out rfl (x := .tmp 107) (v := .pointer (some ⟨gr, 0, none⟩)) rfl (by rfl) (by (repeat (first | exact .head | apply Ext.tail))) hup (by rfl) (by rfl) ?_) | ((with_reducible refine gate_dst (N := 77) rfl ?_); refine own_load HO.out rfl (x := .tmp 76) (v := slv Z gi) rfl (by rfl) (by (repeat (first | exact .head | apply Ext.tail))) hul (by rfl) HSC.out ?_) | ((with_reducible refine gate_dst (N := 78) rfl ?_); refine own_lit HO.out rfl (N := 78) rfl (cs := #[slv Z gi]) (t := 32) (n := 1) (m := 1) (by first | (go_simp; done) | (go_simp; rfl) | kernel_rfl) ?_; intro g78 w78 hO_; clear HO; have HO := Aside0.mk hO_; clear hO_) | ((with_reducible refine gate_dst (N := 79) rfl ?_); refine own_append (z := .slice none 0 0) (size := 1) (bytes := 24) (R := SR) (L := zblk Z ZL ++ (blks G D ++ L)) ((g78, .cells #[slv Z gi] 32 (0, 0)) :: (g3, .cells #[.int .i64 x, .int .i64 y] 54 (0, 0)) :: (gw, .cells #[.slice (some ⟨gq, 0, none⟩) n c, .pointer (some ⟨gr, 0, none⟩)] 91 (0, 0)) :: (gr, .cells #[.int .i64 (Z : Int), .slice (some ⟨gs, 0, none⟩) N cS] 129 (0, 0)) :: (gq, .cells cq 54 (0, 0)) :: (gs, .cells cs 32 (0, 0)) :: KR) HO.out rfl rfl hull (by kernel_rfl) rfl (by rfl) HSR.out (by rfl) (HO.out.src hull .head 0 1 1 [slv Z gi] rfl rfl (by simp [Value.oneCell', slv])) (by have := HBD.out; show ns + 1 ≤ 9223372036854775807; omega) (by have := HBD.out; omega) ?_; intro v2 SR2 wc hR2 hO_; obtain ⟨AB2, cb2, rfl⟩ := RowOf.shape hR2; have HSR2 := Aside0.mk hR2; clear hR2; have hO_ : Own w0 wc ((g3, .cells #[.int .i64 x, .int .i64 y] 54 (0, 0)) :: (gw, .cells #[.slice (some ⟨gq, 0, none⟩) n c, .pointer (some ⟨gr, 0, none⟩)] 91 (0, 0)) :: (gr, .cells #[.int .i64 (Z : Int), .slice (some ⟨gs, 0, none⟩) N cS] 129 (0, 0)) :: (gq, .cells cq 54 (0, 0)) :: (gs, .cells cs 32 (0, 0)) :: (KR ++ (SR2 ++ (zblk Z ZL ++ (blks G D ++ L))))) := hO_.drop; clear HO; have HO := Aside0.mk hO_; clear hO_))
          go_roundg m
          case measure => clear u1 u1b; omega
          case rel => exact ⟨i + 1, nk, ck, ns + 1, cb2, AK, AB2, KR, SR2, KL, SLs ++ [gi], ZL, rfl, rfl, rfl, ⟨by clear u1 u1b; have := HI.out; omega⟩, HK2, HS2, HZ2, HKR, ⟨by rw [List.map_append]; exact HSR2.out⟩, HO⟩
end Go.Proofs.Lc
