/- Contracts of the storage's methods (local.Local), over lists of blocks; no conditions beyond each theorem's own. -/
import Derived.Test.YtgkdbhkbkpfbpaaRF
import Derived.Laws.IdiomCopy
import Derived.Lib.SliceRun
set_option linter.unusedVariables false
set_option linter.unusedSimpArgs false
namespace Go.Proofs.Lc
open Go.RowKit Go.Proofs.Ev Go.Proofs.Hp Go.Proofs.Ar Go.Proofs.YtgkdbhkbkpfbpaaW.PrintWords Go.Proofs.YtgkdbhkbkpfbpaaW.PrintLast Go.Proofs.YtgkdbhkbkpfbpaaW.PrintMore
attribute [local go_sem] max2_int min2_int max_two min_two max_three min_three max_four min_four eql_slice_nil
theorem _root_.Go.Proofs.Hp.Own.swapfour {w0 W : World} {S B R L : Hl} (h : Own w0 W (S ++ (B ++ (R ++ L)))) : Own w0 W (S ++ (R ++ (B ++ L))) := h.perm (List.Perm.append_left S (by rw [← List.append_assoc, ← List.append_assoc]; exact List.Perm.append_right _ List.perm_append_comm))
/-- The cells of keys. -/
def kcells : List (Int × Int) → List Value
  | [] => []
  | k :: K => .int .i64 k.1 :: .int .i64 k.2 :: kcells K
theorem kcells_len : ∀ K : List (Int × Int), (kcells K).length = K.length * 2
  | [] => rfl
  | k :: K => by simp only [kcells, List.length_cons, kcells_len K]; omega
theorem kcells_app : ∀ K K' : List (Int × Int), kcells (K ++ K') = kcells K ++ kcells K'
  | [], _ => rfl
  | k :: K, K' => by simp only [List.cons_append, kcells, kcells_app K K']
theorem kcells_one : ∀ K : List (Int × Int), ∀ u ∈ kcells K, u.oneCell' = true
  | [], u, h => by cases h
  | k :: K, u, h => by
    simp only [kcells, List.mem_cons] at h
    rcases h with rfl | rfl | h
    · rfl
    · rfl
    · exact kcells_one K u h
theorem kcells_at : ∀ (K : List (Int × Int)) (i : Nat) (hi : i < K.length), (kcells K)[i * 2]? = some (.int .i64 K[i].1) ∧ (kcells K)[i * 2 + 1]? = some (.int .i64 K[i].2)
  | [], _, h => absurd h (Nat.not_lt_zero _)
  | k :: K, 0, _ => ⟨rfl, rfl⟩
  | k :: K, i + 1, h => by
    have ih := kcells_at K i (by simpa using h)
    have e : (i + 1) * 2 = i * 2 + 1 + 1 := by omega
    rw [e]
    simpa [kcells] using ih
/-- The place of a key; -1: it has none. -/
def kfind (x : Int × Int) : List (Int × Int) → Nat → Int
  | [], _ => -1
  | k :: K, i => if k = x then (i : Int) else kfind x K (i + 1)
/-- A storage: its own block and its array's two. -/
def LOB (A : Option Addr) (n c ga : Nat) : Obj := .cells #[.slice A n c, .pointer (some ⟨ga, 0, none⟩)] 140 (0, 0)
set_option maxHeartbeats 8000000 in
set_option maxRecDepth 100000 in
theorem clo_calls (w0 w : World) (L : Hl) (g3 : Nat) (a b x y : Int) (t : Bool) (ht : (a == x && b == y) = t) (hO : Own w0 w ((g3, .cells #[.int .i64 x, .int .i64 y] 54 (0, 0)) :: L)) :
    Calls Try.prog 114 #[.agg #[.int .i64 a, .int .i64 b], .pointer (some ⟨g3, 0, none⟩)] w fun e w' => e = .returned (.bool t) ∧ Own w0 w' ((g3, .cells #[.int .i64 x, .int .i64 y] 54 (0, 0)) :: L) := by
  have huk := Try.underlying54
  have HO := Aside0.mk hO
  have HT := Aside0.mk ht
  clear hO ht
  by_cases h1 : a = x
  · have e1 : (a == x) = true := beq_iff_eq.mpr h1
    by_cases h2 : b = y
    · subst h1 h2
      have h : t = true := by have := HT.out; simpa using this.symm
      subst h
      clear HT e1
      go_enter Try.func114, Try.ntmps114
      go_wp2_with (first | ((with_reducible refine gate_dst (N := 2) rfl ?_); refine own_box HO.out ?hg (N := 2) ?hd (cs := #[.int .i64 a, .int .i64 b]) (t := 54) ?hr ?_; (case hd => rfl); (case hg => rfl); (case hr => first | (go_simp; done) | (go_simp; rfl) | kernel_rfl); intro g2 w2 hO_; clear HO; have HO := Aside0.mk hO_; clear hO_) | ((with_reducible refine gate_dst (N := 4) rfl ?_); refine own_wload HO.out rfl (x := .tmp 2) rfl (by rfl) (by (repeat (first | exact .head | apply Ext.tail))) huk (by rfl) (by kernel_rfl) ?_) | ((with_reducible refine gate_dst (N := 5) rfl ?_); refine own_wload HO.out rfl (x := .tmp 1) rfl (by rfl) (by (repeat (first | exact .head | apply Ext.tail))) huk (by rfl) (by kernel_rfl) ?_))
      go_ret
      exact ⟨by simp, HO.out.drop⟩
    · have e2 : (b == y) = false := beq_eq_false_iff_ne.mpr h2
      have h2' := eq_false h2
      subst h1
      have h : t = false := by have := HT.out; rw [e2] at this; simpa using this.symm
      subst h
      clear HT e1 h2
      go_enter Try.func114, Try.ntmps114
      go_wp2_with (first | ((with_reducible refine gate_dst (N := 2) rfl ?_); refine own_box HO.out ?hg (N := 2) ?hd (cs := #[.int .i64 a, .int .i64 b]) (t := 54) ?hr ?_; (case hd => rfl); (case hg => rfl); (case hr => first | (go_simp; done) | (go_simp; rfl) | kernel_rfl); intro g2 w2 hO_; clear HO; have HO := Aside0.mk hO_; clear hO_) | ((with_reducible refine gate_dst (N := 4) rfl ?_); refine own_wload HO.out rfl (x := .tmp 2) rfl (by rfl) (by (repeat (first | exact .head | apply Ext.tail))) huk (by rfl) (by kernel_rfl) ?_) | ((with_reducible refine gate_dst (N := 5) rfl ?_); refine own_wload HO.out rfl (x := .tmp 1) rfl (by rfl) (by (repeat (first | exact .head | apply Ext.tail))) huk (by rfl) (by kernel_rfl) ?_))
      go_ret
      exact ⟨by simp, HO.out.drop⟩
  · have e1 : (a == x) = false := beq_eq_false_iff_ne.mpr h1
    have h1' := eq_false h1
    have h : t = false := by have := HT.out; rw [e1] at this; simpa using this.symm
    subst h
    clear HT h1
    go_enter Try.func114, Try.ntmps114
    go_wp2_with (first | ((with_reducible refine gate_dst (N := 2) rfl ?_); refine own_box HO.out ?hg (N := 2) ?hd (cs := #[.int .i64 a, .int .i64 b]) (t := 54) ?hr ?_; (case hd => rfl); (case hg => rfl); (case hr => first | (go_simp; done) | (go_simp; rfl) | kernel_rfl); intro g2 w2 hO_; clear HO; have HO := Aside0.mk hO_; clear hO_) | ((with_reducible refine gate_dst (N := 4) rfl ?_); refine own_wload HO.out rfl (x := .tmp 2) rfl (by rfl) (by (repeat (first | exact .head | apply Ext.tail))) huk (by rfl) (by kernel_rfl) ?_) | ((with_reducible refine gate_dst (N := 5) rfl ?_); refine own_wload HO.out rfl (x := .tmp 1) rfl (by rfl) (by (repeat (first | exact .head | apply Ext.tail))) huk (by rfl) (by kernel_rfl) ?_))
    go_ret
    exact ⟨by simp, HO.out.drop⟩
set_option maxHeartbeats 8000000 in
set_option maxRecDepth 100000 in
theorem idx_calls (w0 w : World) (L RK : Hl) (g3 : Nat) (x y : Int) (A : Option Addr) (n c : Nat) (K : List (Int × Int)) (hR : RowOf 54 2 RK (.slice A n c) n (kcells K)) (hK : K.length = n) (hn : n ≤ 64) (hO : Own w0 w ((g3, .cells #[.int .i64 x, .int .i64 y] 54 (0, 0)) :: (RK ++ L))) :
    Calls Try.prog 113 #[.slice A n c, .func (.func 114) #[] #[.pointer (some ⟨g3, 0, none⟩)]] w fun e w' => e = .returned (.int .i64 (kfind (x, y) K 0)) ∧ Own w0 w' ((g3, .cells #[.int .i64 x, .int .i64 y] 54 (0, 0)) :: (RK ++ L)) := by
  have huk := Try.underlying54
  have HO : Aside0 (Own w0 w ((g3, .cells #[.int .i64 x, .int .i64 y] 54 (0, 0)) :: (RK ++ L))) := ⟨hO⟩
  have HR := Aside0.mk hR
  have HK := Aside0.mk hK
  have HN := Aside0.mk hn
  clear hO hR hK hn
  obtain ⟨r, hr⟩ : ∃ r, kfind (x, y) K 0 = r := ⟨_, rfl⟩
  rw [hr]
  go_enter Try.func113, Try.ntmps113
  go_wp2
  go_loopg [8] n (fun gk v8 w' => ∃ i : Nat, v8 = .int .i64 (i : Int) ∧ Aside0 (i + gk = n) ∧ Aside0 (kfind (x, y) (K.drop i) i = r) ∧ Aside0 (Own w0 w' ((g3, .cells #[.int .i64 x, .int .i64 y] 54 (0, 0)) :: (RK ++ L))))
  case atStart => exact ⟨0, rfl, ⟨by omega⟩, ⟨hr⟩, HO⟩
  case round =>
    clear HO hr
    obtain ⟨i, rfl, HI, HF, HO⟩ := hrel
    cases gk with
    | zero =>
      have c1 : decide ((i : Int) < (n : Int)) = false := decide_eq_false (by have := HI.out; omega)
      have c1n : decide (i < n) = false := decide_eq_false (by have := HI.out; omega)
      have hr : r = -1 := by have := HF.out; rw [List.drop_eq_nil_of_le (by have := HI.out; have := HK.out; omega)] at this; exact this.symm
      subst hr
      go_wp2
      go_ret
      exact ⟨rfl, HO.out⟩
    | succ m =>
      have hin : i < n := by have := HI.out; omega
      have hi : i < K.length := by have := HI.out; have := HK.out; omega
      have c1 : decide ((i : Int) < (n : Int)) = true := decide_eq_true (by omega)
      have c1n : decide (i < n) = true := decide_eq_true hin
      have hiw : IntKind.i64.wrap ((i : Int) + 1) = ((i + 1 : Nat) : Int) := (IntWalk.i64_in _ (by have := HN.out; omega)).trans (by omega)
      have hiw2 : wrap64 ((i : Int) + 1) = ((i + 1 : Nat) : Int) := (i64_w _).symm.trans hiw
      have p1 := eq_true (show 0 ≤ (i : Int) by omega)
      have q1 := eq_true (show (i : Int) < (n : Int) by omega)
      have q1n := eq_true hin
      have h0n : 0 < n := by omega
      obtain ⟨g, cap, hv, _, _, _, _, hcell⟩ := HR.out.cells HO.out.drop h0n
      clear h0n
      simp only [Value.slice.injEq] at hv
      obtain ⟨rfl, _, rfl⟩ := hv
      have hx0 := hcell _ _ (kcells_at K i hi).1
      have hx1 := hcell _ _ (kcells_at K i hi).2
      have hd : K.drop i = K[i] :: K.drop (i + 1) := List.drop_eq_getElem_cons hi
      have HF2 := HF.out
      rw [hd] at HF2
      unfold kfind at HF2
      generalize K[i] = kk at hx0 hx1 HF2
      obtain ⟨k1, k2⟩ := kk
      dsimp only at hx0 hx1
      by_cases hk : k1 = x ∧ k2 = y
      · have HT : Aside0 ((k1 == x && k2 == y) = true) := ⟨by simp [hk.1, hk.2]⟩
        have hr : (i : Int) = r := by rw [if_pos (by rw [hk.1, hk.2])] at HF2; exact HF2
        subst hr
        clear HF2 hk hcell hd hi hin
        go_wp2_with (first | (go_at_call 114; refine (clo_calls w0 _ (RK ++ L) g3 k1 k2 x y true HT.out HO.out).mono ?_; rintro e wk ⟨rfl, hO_⟩; clear HO; have HO := Aside0.mk hO_; clear hO_; dsimp only))
        go_ret
        exact ⟨rfl, HO.out⟩
      · have HT : Aside0 ((k1 == x && k2 == y) = false) := ⟨by
          cases h1 : (k1 == x)
          · rfl
          · cases h2 : (k2 == y)
            · rfl
            · exact absurd ⟨beq_iff_eq.mp h1, beq_iff_eq.mp h2⟩ hk⟩
        have HF3 : Aside0 (kfind (x, y) (K.drop (i + 1)) (i + 1) = r) := ⟨by rw [if_neg (by intro h; apply hk; exact Prod.mk.inj h)] at HF2; exact HF2⟩
        clear HF2 hk hcell hd hi hin
        go_wp2_with (first | (go_at_call 114; refine (clo_calls w0 _ (RK ++ L) g3 k1 k2 x y false HT.out HO.out).mono ?_; rintro e wk ⟨rfl, hO_⟩; clear HO; have HO := Aside0.mk hO_; clear hO_; dsimp only))
        go_roundg m
        case measure => omega
        case rel => exact ⟨i + 1, rfl, ⟨by have := HI.out; omega⟩, HF3, HO⟩
set_option maxHeartbeats 8000000 in
set_option maxRecDepth 100000 in
theorem find_calls (w0 w : World) (L RK : Hl) (gl ga : Nat) (x y : Int) (A : Option Addr) (n c : Nat) (K : List (Int × Int)) (hR : RowOf 54 2 RK (.slice A n c) n (kcells K)) (hK : K.length = n) (hn : n ≤ 64) (hO : Own w0 w ((gl, .cells #[.slice A n c, .pointer (some ⟨ga, 0, none⟩)] 140 (0, 0)) :: (RK ++ L))) :
    Calls Try.prog 79 #[.pointer (some ⟨gl, 0, none⟩), .agg #[.int .i64 x, .int .i64 y]] w fun e w' => e = .returned (.int .i64 (kfind (x, y) K 0)) ∧ Own w0 w' ((gl, .cells #[.slice A n c, .pointer (some ⟨ga, 0, none⟩)] 140 (0, 0)) :: (RK ++ L)) := by
  have huk := Try.underlying54
  have huks := Try.underlying89
  have HO : Aside0 (Own w0 w ((gl, .cells #[.slice A n c, .pointer (some ⟨ga, 0, none⟩)] 140 (0, 0)) :: (RK ++ L))) := ⟨hO⟩
  have HR := Aside0.mk hR
  have HK := Aside0.mk hK
  have HN := Aside0.mk hn
  clear hO hR hK hn
  go_enter Try.func79, Try.ntmps79
  go_wp2_with (first | ((with_reducible refine gate_dst (N := 3) rfl ?_); refine own_box HO.out ?hg (N := 3) ?hd (cs := #[.int .i64 x, .int .i64 y]) (t := 54) ?hr ?_; (case hd => rfl); (case hg => rfl); (case hr => first | (go_simp; done) | (go_simp; rfl) | kernel_rfl); intro g3 w3 hO_; clear HO; have HO := Aside0.mk hO_; clear hO_) | ((with_reducible refine gate_dst (N := 8) rfl ?_); refine own_load HO.out rfl (x := .tmp 7) (v := .slice A n c) rfl (by rfl) (by (repeat (first | exact .head | apply Ext.tail))) huks (by rfl) (by rfl) ?_) | ((with_reducible refine gate_callee (f := 113) rfl ?_); (with_reducible refine gate_dst (N := 10) rfl ?_); refine goesL_ (some 10) rfl rfl Try.func113 (by kernel_rfl) rfl #[.slice A n c, .func (.func 114) #[] #[.pointer (some ⟨g3, 0, none⟩)]] rfl (by (try simp only [List.map_toArray, List.map_cons, List.map_nil]); first | done | rfl) ?_; (with_reducible refine (idx_calls w0 _ ((gl, .cells #[.slice A n c, .pointer (some ⟨ga, 0, none⟩)] 140 (0, 0)) :: L) RK g3 x y A n c K HR.out HK.out HN.out (Own.swapfour (S := [(g3, .cells #[.int .i64 x, .int .i64 y] 54 (0, 0))]) (B := [(gl, .cells #[.slice A n c, .pointer (some ⟨ga, 0, none⟩)] 140 (0, 0))]) (R := RK) (L := L) HO.out)).mono ?_); rintro e wx ⟨rfl, hO_⟩; refine ⟨_, rfl, ?_⟩; have hO_ : Own w0 wx ((gl, .cells #[.slice A n c, .pointer (some ⟨ga, 0, none⟩)] 140 (0, 0)) :: (RK ++ L)) := Own.swap3 (B := RK) (R := [(gl, .cells #[.slice A n c, .pointer (some ⟨ga, 0, none⟩)] 140 (0, 0))]) (L := L) hO_.drop; clear HO; have HO := Aside0.mk hO_; clear hO_))
  go_ret
  exact ⟨rfl, HO.out⟩
theorem _root_.Go.Proofs.Hp.Own.toK {w0 W : World} {a b c : Nat × Obj} {R L : Hl} (h : Own w0 W (a :: b :: c :: (R ++ L))) : Own w0 W (a :: (R ++ (b :: c :: L))) := Own.swapfour (S := [a]) (B := [b, c]) (R := R) (L := L) h
theorem _root_.Go.Proofs.Hp.Own.fromK {w0 W : World} {a b c : Nat × Obj} {R L : Hl} (h : Own w0 W (a :: (R ++ (b :: c :: L)))) : Own w0 W (a :: b :: c :: (R ++ L)) := Own.swapfour (S := [a]) (B := R) (R := [b, c]) (L := L) h
theorem _root_.Go.Proofs.Hp.Own.toA {w0 W : World} {a b c : Nat × Obj} {L : Hl} (h : Own w0 W (a :: b :: c :: L)) : Own w0 W (b :: c :: a :: L) := Own.swap3 (B := [a]) (R := [b, c]) (L := L) h
theorem _root_.Go.Proofs.Hp.Own.fromA {w0 W : World} {a b c : Nat × Obj} {L : Hl} (h : Own w0 W (b :: c :: a :: L)) : Own w0 W (a :: b :: c :: L) := Own.swap3 (B := [b, c]) (R := [a]) (L := L) h
structure LNum (Z N NN : Nat) : Prop where
  hz : 1 ≤ (Z : Int) ∧ (Z : Int) ≤ 32
  hn : 0 ≤ (N : Int) ∧ (N : Int) ≤ 16
  hn1 : 1 ≤ (N : Int) ∧ (N : Int) ≤ 16
  hs : (NN : Int) = (Z : Int) * (N : Int)
  hs2 : NN = N * Z
  hm : NN ≤ 512
theorem LNum.of {Z N : Nat} (hz : 1 ≤ Z ∧ Z ≤ 32) (hn : 1 ≤ N ∧ N ≤ 16) : LNum Z N (N * Z) :=
  ⟨⟨by omega, by omega⟩, ⟨by omega, by omega⟩, ⟨by omega, by omega⟩, by rw [Int.mul_comm]; simp, rfl, by have h : N * Z ≤ 16 * 32 := Nat.mul_le_mul hn.2 hz.2; omega⟩
structure LSt (Z N : Nat) (RK : Hl) (A : Option Addr) (n c : Nat) (K : List (Int × Int)) (D : List (List Int)) : Prop where
  row : RowOf 54 2 RK (.slice A n c) n (kcells K)
  kl : K.length = n
  nle : n ≤ N
  dl : D.length = N
  dz : ∀ d ∈ D, d.length = Z
theorem flat_len2 : ∀ (D : List (List Int)) (Z : Nat), (∀ d ∈ D, d.length = Z) → D.flatten.length = D.length * Z
  | [], Z, _ => by simp
  | d :: D, Z, h => by
    rw [List.flatten_cons, List.length_append, flat_len2 D Z (fun x hx => h x (List.mem_cons_of_mem _ hx)), h d (List.mem_cons_self ..), List.length_cons, Nat.add_mul, Nat.one_mul, Nat.add_comm]
theorem LSt.fl {Z N NN : Nat} {RK : Hl} {A : Option Addr} {n c : Nat} {K : List (Int × Int)} {D : List (List Int)} (h : LSt Z N RK A n c K D) (hn : LNum Z N NN) : D.flatten.length = NN := by rw [flat_len2 D Z h.dz, h.dl, hn.hs2]
theorem flat_setd : ∀ (D : List (List Int)) (Z : Nat), (∀ d ∈ D, d.length = Z) → ∀ (k : Nat) (d' : List Int), k < D.length → d'.length = Z → (D.set k d').flatten = D.flatten.take (k * Z) ++ (d' ++ D.flatten.drop (k * Z + Z))
  | [], _, _, k, _, hk, _ => absurd hk (Nat.not_lt_zero _)
  | d :: D, Z, h, 0, d', _, hd' => by
    have hd := h d (List.mem_cons_self ..)
    simp only [List.set_cons_zero, List.flatten_cons, Nat.zero_mul, Nat.zero_add, List.take_zero, List.nil_append]
    rw [← hd, List.drop_left]
  | d :: D, Z, h, k + 1, d', hk, hd' => by
    have hd := h d (List.mem_cons_self ..)
    have ih := flat_setd D Z (fun y hy => h y (List.mem_cons_of_mem _ hy)) k d' (by simpa using hk) hd'
    simp only [List.set_cons_succ, List.flatten_cons]
    have e1 : (k + 1) * Z = d.length + k * Z := by rw [hd, Nat.add_mul]; omega
    have e2 : (k + 1) * Z + Z = d.length + (k * Z + Z) := by rw [hd, Nat.add_mul]; omega
    rw [ih, e2, e1, List.take_length_add_append, List.drop_length_add_append, List.append_assoc]
theorem put_slot {D : List (List Int)} {Z k : Nat} {d' : List Int} (h : ∀ d ∈ D, d.length = Z) (hk : k < D.length) (hd : d'.length = Z) (hfit : k * Z + Z ≤ D.flatten.length) : putAt (u8s D.flatten) (k * Z) (d'.map (Value.int .u8)) = u8s (D.set k d').flatten := by
  apply Array.toList_inj.1
  rw [putAt_list _ _ _ (by rw [u8s_size, List.length_map, hd]; exact hfit), flat_setd D Z h k d' hk hd]
  simp [u8s, hd]
section
variable {P : Program} {ops : Array Oper} {rest : List Oper} {o : Oper} {a : Act} {Q : Exit → Act → World → Prop} {w0 W : World} {L L' : Hl} {b : Nat}
/-- Cells are copied into a block of the list. -/
theorem own_copy (HO : Own w0 W L) (hgd : o.guard = none) {d s : Operand} {dT sT elem : TypeId} (ho : o.op = .call { callee := .builtin .copy, args := #[d, s], argTypes := #[dT, sT] }) (hu : P.underlying dT = some (.slice elem)) (hsz : (P.info? elem).map (·.size) = some 1)
    {off dLen dCap sLen sCap : Nat} {ad : Addr} (hd : a.eval d = .slice (some ⟨b, off, none⟩) dLen dCap) (hs : a.eval s = .slice (some ad) sLen sCap) {vs : List Value} (hn : vs.length = Nat.min sLen dLen) (hsrc : ∀ j v, vs[j]? = some v → W.cell? (ad.add j) = some v) (h1 : ∀ v ∈ vs, v.oneCell' = true)
    {cs cs' : Array Value} {t : TypeId} (he : Ext L b (.cells cs t (0, 0)) L') (hfit : off + vs.length ≤ cs.size) (hc : putAt cs off vs = cs') (h : ∀ w1, Own w0 w1 ((b, .cells cs' t (0, 0)) :: L') → wpList P ops Q rest (a.put o.dst (goInt vs.length)) w1) : wpList P ops Q (o :: rest) a W := by
  have hth := HO.there he off vs.length hfit
  have hrun := run_copy_cells (P := P) W dT sT o.type elem b off dLen dCap ad sLen sCap vs hu hsz hn hsrc (fun j hj => (hth j hj).1) (fun j hj => (hth j hj).2) h1
  refine Kd.event_run hgd (w1 := W.setCells b off vs) (v := goInt vs.length) ?_ (h _ (HO.setCells he off vs hc))
  unfold execOp
  rw [ho]
  simp [resolve, invoke, Deferred.ofValue, builtin, hd, hs, hrun, Sem.run_bind, Result.andThen]
end
set_option maxHeartbeats 8000000 in
set_option maxRecDepth 100000 in
theorem llen_calls (w0 w : World) (L RK : Hl) (gl ga gb Z N NN : Nat) (A : Option Addr) (n c : Nat) (K : List (Int × Int)) (D : List (List Int)) (hN : LNum Z N NN) (hS : LSt Z N RK A n c K D) (hO : Own w0 w ((gl, .cells #[.slice A n c, .pointer (some ⟨ga, 0, none⟩)] 140 (0, 0)) :: (ga, .cells #[.int .i64 (Z : Int), .slice (some ⟨gb, 0, none⟩) NN NN] 126 (0, 0)) :: (gb, .cells (u8s D.flatten) 5 (0, 0)) :: (RK ++ L))) :
    Calls Try.prog 38 #[.pointer (some ⟨gl, 0, none⟩)] w fun e w' => e = .returned (.int .i64 (n : Int)) ∧ Own w0 w' ((gl, .cells #[.slice A n c, .pointer (some ⟨ga, 0, none⟩)] 140 (0, 0)) :: (ga, .cells #[.int .i64 (Z : Int), .slice (some ⟨gb, 0, none⟩) NN NN] 126 (0, 0)) :: (gb, .cells (u8s D.flatten) 5 (0, 0)) :: (RK ++ L)) := by
  have hui := Try.underlying3
  have hul := Try.underlying32
  have huk := Try.underlying54
  have huks := Try.underlying89
  have hup := Try.underlying24
  have HO : Aside0 (Own w0 w ((gl, .cells #[.slice A n c, .pointer (some ⟨ga, 0, none⟩)] 140 (0, 0)) :: (ga, .cells #[.int .i64 (Z : Int), .slice (some ⟨gb, 0, none⟩) NN NN] 126 (0, 0)) :: (gb, .cells (u8s D.flatten) 5 (0, 0)) :: (RK ++ L))) := ⟨hO⟩
  have HN := Aside0.mk hN
  have HS := Aside0.mk hS
  clear hO hN hS
  go_enter Try.func38, Try.ntmps38
  go_wp2_with (first | ((with_reducible refine gate_dst (N := 8) rfl ?_); refine own_load HO.out rfl (x := .tmp 7) (v := .slice A n c) rfl (by rfl) (by (repeat (first | exact .head | apply Ext.tail))) huks (by rfl) (by rfl) ?_))
  go_ret
  exact ⟨rfl, HO.out⟩
set_option maxHeartbeats 8000000 in
set_option maxRecDepth 100000 in
theorem lslot_ok (w0 w : World) (L RK : Hl) (gl ga gb Z N NN : Nat) (A : Option Addr) (n c : Nat) (K : List (Int × Int)) (D : List (List Int)) (hN : LNum Z N NN) (hS : LSt Z N RK A n c K D) (k : Nat) (hk : k < N) (hO : Own w0 w ((gl, .cells #[.slice A n c, .pointer (some ⟨ga, 0, none⟩)] 140 (0, 0)) :: (ga, .cells #[.int .i64 (Z : Int), .slice (some ⟨gb, 0, none⟩) NN NN] 126 (0, 0)) :: (gb, .cells (u8s D.flatten) 5 (0, 0)) :: (RK ++ L))) :
    Calls Try.prog 36 #[.pointer (some ⟨gl, 0, none⟩), .int .i64 (k : Int)] w fun e w' => e = .returned (.tuple #[.slice (some ⟨gb, k * Z, none⟩) Z Z, .bool true]) ∧ Own w0 w' ((gl, .cells #[.slice A n c, .pointer (some ⟨ga, 0, none⟩)] 140 (0, 0)) :: (ga, .cells #[.int .i64 (Z : Int), .slice (some ⟨gb, 0, none⟩) NN NN] 126 (0, 0)) :: (gb, .cells (u8s D.flatten) 5 (0, 0)) :: (RK ++ L)) := by
  have hui := Try.underlying3
  have hul := Try.underlying32
  have huk := Try.underlying54
  have huks := Try.underlying89
  have hup := Try.underlying24
  have HO : Aside0 (Own w0 w ((gl, .cells #[.slice A n c, .pointer (some ⟨ga, 0, none⟩)] 140 (0, 0)) :: (ga, .cells #[.int .i64 (Z : Int), .slice (some ⟨gb, 0, none⟩) NN NN] 126 (0, 0)) :: (gb, .cells (u8s D.flatten) 5 (0, 0)) :: (RK ++ L))) := ⟨hO⟩
  have HN := Aside0.mk hN
  have HS := Aside0.mk hS
  clear hO hN hS
  have HK : Aside0 (0 ≤ (k : Int) ∧ (k : Int) < (N : Int)) := ⟨by omega, by omega⟩
  have HKK : Aside0 (((k * Z : Nat) : Int) = (k : Int) * (Z : Int)) := ⟨by simp⟩
  have HKL : Aside0 (k * Z + Z ≤ NN) := ⟨by have h1 : (k + 1) * Z ≤ N * Z := Nat.mul_le_mul_right Z hk; rw [Nat.add_mul, Nat.one_mul] at h1; rw [HN.out.hs2]; exact h1⟩
  clear hk
  go_enter Try.func36, Try.ntmps36
  go_wp2_with (first | ((with_reducible refine gate_dst (N := 11) rfl ?_); refine own_load HO.out rfl (x := .tmp 10) (v := .pointer (some ⟨ga, 0, none⟩)) rfl (by rfl) (by (repeat (first | exact .head | apply Ext.tail))) hup (by rfl) (by rfl) ?_) | ((with_reducible refine gate_callee (f := 19) rfl ?_); (with_reducible refine gate_dst (N := 13) rfl ?_); refine goesL_ (some 13) rfl rfl Try.func19 (by kernel_rfl) rfl #[.pointer (some ⟨ga, 0, none⟩), .int .i64 (k : Int)] rfl (by (try simp only [List.map_toArray, List.map_cons, List.map_nil]); first | done | rfl) ?_; (with_reducible refine (slot_ok w0 _ ((gl, .cells #[.slice A n c, .pointer (some ⟨ga, 0, none⟩)] 140 (0, 0)) :: (RK ++ L)) ga gb (Z : Int) NN D.flatten (k : Int) (N : Int) HN.out.hz HN.out.hn HN.out.hs (k * Z) Z HK.out HKK.out rfl HKL.out HN.out.hm HO.out.toA).mono ?_); rintro e wx ⟨rfl, hO_⟩; refine ⟨_, rfl, ?_⟩; have hO_ := hO_.fromA; clear HO; have HO := Aside0.mk hO_; clear hO_))
  refine bodyPost_ret (results_tmp2 rfl _ _ _) rfl ?_
  exact ⟨rfl, HO.out⟩
set_option maxHeartbeats 8000000 in
set_option maxRecDepth 100000 in
theorem clear_calls (w0 w : World) (L RK : Hl) (gl ga gb Z N NN : Nat) (A : Option Addr) (n c : Nat) (K : List (Int × Int)) (D : List (List Int)) (hN : LNum Z N NN) (hS : LSt Z N RK A n c K D) (k : Nat) (hk : k < N) (hO : Own w0 w ((gl, .cells #[.slice A n c, .pointer (some ⟨ga, 0, none⟩)] 140 (0, 0)) :: (ga, .cells #[.int .i64 (Z : Int), .slice (some ⟨gb, 0, none⟩) NN NN] 126 (0, 0)) :: (gb, .cells (u8s D.flatten) 5 (0, 0)) :: (RK ++ L))) :
    Calls Try.prog 80 #[.pointer (some ⟨gl, 0, none⟩), .int .i64 (k : Int)] w fun e w' => e = .returned (.tuple #[]) ∧ Own w0 w' ((gl, .cells #[.slice A n c, .pointer (some ⟨ga, 0, none⟩)] 140 (0, 0)) :: (ga, .cells #[.int .i64 (Z : Int), .slice (some ⟨gb, 0, none⟩) NN NN] 126 (0, 0)) :: (gb, .cells (u8s (D.set k (List.replicate Z 0)).flatten) 5 (0, 0)) :: (RK ++ L)) := by
  have hui := Try.underlying3
  have hul := Try.underlying32
  have huk := Try.underlying54
  have huks := Try.underlying89
  have hup := Try.underlying24
  have HO : Aside0 (Own w0 w ((gl, .cells #[.slice A n c, .pointer (some ⟨ga, 0, none⟩)] 140 (0, 0)) :: (ga, .cells #[.int .i64 (Z : Int), .slice (some ⟨gb, 0, none⟩) NN NN] 126 (0, 0)) :: (gb, .cells (u8s D.flatten) 5 (0, 0)) :: (RK ++ L))) := ⟨hO⟩
  have HN := Aside0.mk hN
  have HS := Aside0.mk hS
  clear hO hN hS
  have HK : Aside0 (0 ≤ (k : Int) ∧ (k : Int) < (N : Int)) := ⟨by omega, by omega⟩
  have HKK : Aside0 (((k * Z : Nat) : Int) = (k : Int) * (Z : Int)) := ⟨by simp⟩
  have HKL : Aside0 (k * Z + Z ≤ NN) := ⟨by have h1 : (k + 1) * Z ≤ N * Z := Nat.mul_le_mul_right Z hk; rw [Nat.add_mul, Nat.one_mul] at h1; rw [HN.out.hs2]; exact h1⟩
  have HV : Aside0 (((List.replicate Z (0 : Int)).map (Value.int .u8)).length = Nat.min Z Z ∧ ((u8s (List.replicate Z 0)).toList.drop 0).take ((List.replicate Z (0 : Int)).map (Value.int .u8)).length = (List.replicate Z (0 : Int)).map (Value.int .u8)) := ⟨by simp [Nat.min_def], by simp [u8s]⟩
  have HFIT : Aside0 (k * Z + ((List.replicate Z (0 : Int)).map (Value.int .u8)).length ≤ (u8s D.flatten).size) := ⟨by rw [u8s_size, HS.out.fl HN.out, List.length_map, List.length_replicate]; exact HKL.out⟩
  have HPUT : Aside0 (putAt (u8s D.flatten) (k * Z) ((List.replicate Z (0 : Int)).map (Value.int .u8)) = u8s (D.set k (List.replicate Z 0)).flatten) := ⟨put_slot HS.out.dz (by rw [HS.out.dl]; exact hk) (by simp) (by rw [HS.out.fl HN.out]; exact HKL.out)⟩
  clear hk
  go_enter Try.func80, Try.ntmps80
  go_wp2_with (first | ((with_reducible refine gate_dst (N := 10) rfl ?_); refine own_load HO.out rfl (x := .tmp 9) (v := .pointer (some ⟨ga, 0, none⟩)) rfl (by rfl) (by (repeat (first | exact .head | apply Ext.tail))) hup (by rfl) (by rfl) ?_) | ((with_reducible refine gate_callee (f := 19) rfl ?_); (with_reducible refine gate_dst (N := 12) rfl ?_); refine goesL_ (some 12) rfl rfl Try.func19 (by kernel_rfl) rfl #[.pointer (some ⟨ga, 0, none⟩), .int .i64 (k : Int)] rfl (by (try simp only [List.map_toArray, List.map_cons, List.map_nil]); first | done | rfl) ?_; (with_reducible refine (slot_ok w0 _ ((gl, .cells #[.slice A n c, .pointer (some ⟨ga, 0, none⟩)] 140 (0, 0)) :: (RK ++ L)) ga gb (Z : Int) NN D.flatten (k : Int) (N : Int) HN.out.hz HN.out.hn HN.out.hs (k * Z) Z HK.out HKK.out rfl HKL.out HN.out.hm HO.out.toA).mono ?_); rintro e wx ⟨rfl, hO_⟩; refine ⟨_, rfl, ?_⟩; have hO_ := hO_.fromA; clear HO; have HO := Aside0.mk hO_; clear hO_) | ((with_reducible refine gate_dst (N := 18) rfl ?_); refine own_make (z := .int .u8 0) (size := 1) (bytes := 1) (n := Z) HO.out rfl rfl hul (by kernel_rfl) rfl (by rfl) (by rfl) (by have := HN.out.hz; omega) (by have := HN.out.hz; show Z ≤ 9223372036854775807; omega) (made_u8 Z) ?_; intro g18 w18 hO_; clear HO; have HO := Aside0.mk hO_; clear hO_) | ((with_reducible refine gate_dst (N := 19) rfl ?_); refine own_copy (elem := 5) (b := gb) (off := k * Z) (dLen := Z) (dCap := Z) (sLen := Z) (sCap := Z) (ad := ⟨g18, 0, none⟩) (vs := (List.replicate Z 0).map (Value.int .u8)) HO.out rfl rfl hul (by kernel_rfl) (by rfl) (by rfl) HV.out.1 (fun j v hj => by rw [Addr.add_lit]; exact HO.out.range .head 0 _ HV.out.2 j v hj) (u8s_one _) (by (repeat (first | exact .head | apply Ext.tail))) HFIT.out HPUT.out ?_; intro wc hO_; have hO_ : Own w0 wc ((gb, .cells (u8s (D.set k (List.replicate Z 0)).flatten) 5 (0, 0)) :: (g18, .cells (u8s (List.replicate Z 0)) 5 (0, 0)) :: (gl, .cells #[.slice A n c, .pointer (some ⟨ga, 0, none⟩)] 140 (0, 0)) :: (ga, .cells #[.int .i64 (Z : Int), .slice (some ⟨gb, 0, none⟩) NN NN] 126 (0, 0)) :: (RK ++ L)) := hO_; clear HO; have HO := Aside0.mk hO_; clear hO_))
  (first | go_end0 | refine bodyPost_ret (results_none rfl _ _ _) rfl ?_)
  have hO_ : Own w0 _ ((gb, .cells (u8s (D.set k (List.replicate Z 0)).flatten) 5 (0, 0)) :: (gl, .cells #[.slice A n c, .pointer (some ⟨ga, 0, none⟩)] 140 (0, 0)) :: (ga, .cells #[.int .i64 (Z : Int), .slice (some ⟨gb, 0, none⟩) NN NN] 126 (0, 0)) :: (RK ++ L)) := HO.out.twof.drop
  exact ⟨rfl, hO_.toA⟩
theorem find_r (w0 w : World) (L RK : Hl) (gl ga gb Z N NN : Nat) (A : Option Addr) (n c : Nat) (K : List (Int × Int)) (D : List (List Int)) (x y r : Int) (hr : kfind (x, y) K 0 = r) (hN : LNum Z N NN) (hS : LSt Z N RK A n c K D) (hO : Own w0 w ((gl, .cells #[.slice A n c, .pointer (some ⟨ga, 0, none⟩)] 140 (0, 0)) :: (ga, .cells #[.int .i64 (Z : Int), .slice (some ⟨gb, 0, none⟩) NN NN] 126 (0, 0)) :: (gb, .cells (u8s D.flatten) 5 (0, 0)) :: (RK ++ L))) :
    Calls Try.prog 79 #[.pointer (some ⟨gl, 0, none⟩), .agg #[.int .i64 x, .int .i64 y]] w fun e w' => e = .returned (.int .i64 r) ∧ Own w0 w' ((gl, .cells #[.slice A n c, .pointer (some ⟨ga, 0, none⟩)] 140 (0, 0)) :: (ga, .cells #[.int .i64 (Z : Int), .slice (some ⟨gb, 0, none⟩) NN NN] 126 (0, 0)) :: (gb, .cells (u8s D.flatten) 5 (0, 0)) :: (RK ++ L)) := by
  have h := find_calls w0 w ((ga, .cells #[.int .i64 (Z : Int), .slice (some ⟨gb, 0, none⟩) NN NN] 126 (0, 0)) :: (gb, .cells (u8s D.flatten) 5 (0, 0)) :: L) RK gl ga x y A n c K hS.row hS.kl (by have := hS.nle; have := hN.hn; omega) hO.toK
  rw [hr] at h
  exact h.mono fun e w' h => ⟨h.1, h.2.fromK⟩
theorem _root_.Go.Proofs.Hp.Own.backK {w0 W : World} {x a b c : Nat × Obj} {R L : Hl} (h : Own w0 W (x :: a :: b :: c :: (R ++ L))) : Own w0 W (a :: b :: c :: (R ++ (x :: L))) := Own.swap3 (B := [x]) (R := a :: b :: c :: R) (L := L) h
theorem _root_.Go.Proofs.Hp.Own.frontK {w0 W : World} {x a b c : Nat × Obj} {R L : Hl} (h : Own w0 W (a :: b :: c :: (R ++ (x :: L)))) : Own w0 W (x :: a :: b :: c :: (R ++ L)) := Own.swap3 (B := a :: b :: c :: R) (R := [x]) (L := L) h
set_option maxHeartbeats 8000000 in
set_option maxRecDepth 100000 in
theorem get_has (w0 w : World) (L RK : Hl) (gl ga gb Z N NN : Nat) (A : Option Addr) (n c : Nat) (K : List (Int × Int)) (D : List (List Int)) (hN : LNum Z N NN) (hS : LSt Z N RK A n c K D) (x y : Int) (b : Bool) (k : Nat) (hk : kfind (x, y) K 0 = (k : Int)) (hO : Own w0 w ((gl, .cells #[.slice A n c, .pointer (some ⟨ga, 0, none⟩)] 140 (0, 0)) :: (ga, .cells #[.int .i64 (Z : Int), .slice (some ⟨gb, 0, none⟩) NN NN] 126 (0, 0)) :: (gb, .cells (u8s D.flatten) 5 (0, 0)) :: (RK ++ L))) :
    Calls Try.prog 35 #[.pointer (some ⟨gl, 0, none⟩), .agg #[.int .i64 x, .int .i64 y], .bool b] w fun e w' => e = .returned (.tuple #[.int .i64 (k : Int), .int .i64 0]) ∧ Own w0 w' ((gl, .cells #[.slice A n c, .pointer (some ⟨ga, 0, none⟩)] 140 (0, 0)) :: (ga, .cells #[.int .i64 (Z : Int), .slice (some ⟨gb, 0, none⟩) NN NN] 126 (0, 0)) :: (gb, .cells (u8s D.flatten) 5 (0, 0)) :: (RK ++ L)) := by
  have hui := Try.underlying3
  have hul := Try.underlying32
  have huk := Try.underlying54
  have huks := Try.underlying89
  have hup := Try.underlying24
  have HO : Aside0 (Own w0 w ((gl, .cells #[.slice A n c, .pointer (some ⟨ga, 0, none⟩)] 140 (0, 0)) :: (ga, .cells #[.int .i64 (Z : Int), .slice (some ⟨gb, 0, none⟩) NN NN] 126 (0, 0)) :: (gb, .cells (u8s D.flatten) 5 (0, 0)) :: (RK ++ L))) := ⟨hO⟩
  have HN := Aside0.mk hN
  have HS := Aside0.mk hS
  clear hO hN hS
  have HF := Aside0.mk hk
  have c1 : decide (0 ≤ (k : Int)) = true := decide_eq_true (by omega)
  clear hk
  go_enter Try.func35, Try.ntmps35
  go_wp2_with (first | ((with_reducible refine gate_dst (N := 4) rfl ?_); refine own_box HO.out ?hg (N := 4) ?hd (cs := #[.int .i64 x, .int .i64 y]) (t := 54) ?hr ?_; (case hd => rfl); (case hg => rfl); (case hr => first | (go_simp; done) | (go_simp; rfl) | kernel_rfl); intro g4 w4 hO_; clear HO; have HO := Aside0.mk hO_; clear hO_) | ((with_reducible refine gate_dst (N := 12) rfl ?_); refine own_wload HO.out rfl (x := .tmp 4) rfl (by rfl) (by (repeat (first | exact .head | apply Ext.tail))) huk (by rfl) (by kernel_rfl) ?_) | ((with_reducible refine gate_callee (f := 79) rfl ?_); (with_reducible refine gate_dst (N := 13) rfl ?_); refine goesL_ (some 13) rfl rfl Try.func79 (by kernel_rfl) rfl #[.pointer (some ⟨gl, 0, none⟩), .agg #[.int .i64 x, .int .i64 y]] rfl (by (try simp only [List.map_toArray, List.map_cons, List.map_nil]); first | done | rfl) ?_; (with_reducible refine (find_r w0 _ ((g4, .cells #[.int .i64 x, .int .i64 y] 54 (0, 0)) :: L) RK gl ga gb Z N NN A n c K D x y _ HF.out HN.out HS.out HO.out.backK).mono ?_); rintro e wx ⟨rfl, hO_⟩; refine ⟨_, rfl, ?_⟩; have hO_ := hO_.frontK; clear HO; have HO := Aside0.mk hO_; clear hO_))
  refine bodyPost_ret (results_tmp2 rfl _ _ _) rfl ?_
  exact ⟨rfl, HO.out.drop⟩
set_option maxHeartbeats 8000000 in
set_option maxRecDepth 100000 in
theorem get_not (w0 w : World) (L RK : Hl) (gl ga gb Z N NN : Nat) (A : Option Addr) (n c : Nat) (K : List (Int × Int)) (D : List (List Int)) (hN : LNum Z N NN) (hS : LSt Z N RK A n c K D) (x y : Int) (hk : kfind (x, y) K 0 = -1) (hO : Own w0 w ((gl, .cells #[.slice A n c, .pointer (some ⟨ga, 0, none⟩)] 140 (0, 0)) :: (ga, .cells #[.int .i64 (Z : Int), .slice (some ⟨gb, 0, none⟩) NN NN] 126 (0, 0)) :: (gb, .cells (u8s D.flatten) 5 (0, 0)) :: (RK ++ L))) :
    Calls Try.prog 35 #[.pointer (some ⟨gl, 0, none⟩), .agg #[.int .i64 x, .int .i64 y], .bool false] w fun e w' => e = .returned (.tuple #[.int .i64 0, .int .i64 2]) ∧ Own w0 w' ((gl, .cells #[.slice A n c, .pointer (some ⟨ga, 0, none⟩)] 140 (0, 0)) :: (ga, .cells #[.int .i64 (Z : Int), .slice (some ⟨gb, 0, none⟩) NN NN] 126 (0, 0)) :: (gb, .cells (u8s D.flatten) 5 (0, 0)) :: (RK ++ L)) := by
  have hui := Try.underlying3
  have hul := Try.underlying32
  have huk := Try.underlying54
  have huks := Try.underlying89
  have hup := Try.underlying24
  have HO : Aside0 (Own w0 w ((gl, .cells #[.slice A n c, .pointer (some ⟨ga, 0, none⟩)] 140 (0, 0)) :: (ga, .cells #[.int .i64 (Z : Int), .slice (some ⟨gb, 0, none⟩) NN NN] 126 (0, 0)) :: (gb, .cells (u8s D.flatten) 5 (0, 0)) :: (RK ++ L))) := ⟨hO⟩
  have HN := Aside0.mk hN
  have HS := Aside0.mk hS
  clear hO hN hS
  have HF := Aside0.mk hk
  clear hk
  go_enter Try.func35, Try.ntmps35
  go_wp2_with (first | ((with_reducible refine gate_dst (N := 4) rfl ?_); refine own_box HO.out ?hg (N := 4) ?hd (cs := #[.int .i64 x, .int .i64 y]) (t := 54) ?hr ?_; (case hd => rfl); (case hg => rfl); (case hr => first | (go_simp; done) | (go_simp; rfl) | kernel_rfl); intro g4 w4 hO_; clear HO; have HO := Aside0.mk hO_; clear hO_) | ((with_reducible refine gate_dst (N := 12) rfl ?_); refine own_wload HO.out rfl (x := .tmp 4) rfl (by rfl) (by (repeat (first | exact .head | apply Ext.tail))) huk (by rfl) (by kernel_rfl) ?_) | ((with_reducible refine gate_callee (f := 79) rfl ?_); (with_reducible refine gate_dst (N := 13) rfl ?_); refine goesL_ (some 13) rfl rfl Try.func79 (by kernel_rfl) rfl #[.pointer (some ⟨gl, 0, none⟩), .agg #[.int .i64 x, .int .i64 y]] rfl (by (try simp only [List.map_toArray, List.map_cons, List.map_nil]); first | done | rfl) ?_; (with_reducible refine (find_r w0 _ ((g4, .cells #[.int .i64 x, .int .i64 y] 54 (0, 0)) :: L) RK gl ga gb Z N NN A n c K D x y _ HF.out HN.out HS.out HO.out.backK).mono ?_); rintro e wx ⟨rfl, hO_⟩; refine ⟨_, rfl, ?_⟩; have hO_ := hO_.frontK; clear HO; have HO := Aside0.mk hO_; clear hO_))
  refine bodyPost_ret (results_tmp2 rfl _ _ _) rfl ?_
  exact ⟨rfl, HO.out.drop⟩
theorem _root_.Go.Proofs.Hp.Own.frontA2 {w0 W : World} {x l a b : Nat × Obj} {T : Hl} (h : Own w0 W (x :: l :: a :: b :: T)) : Own w0 W (a :: b :: x :: l :: T) := Own.swap3 (B := [x, l]) (R := [a, b]) (L := T) h
theorem _root_.Go.Proofs.Hp.Own.backA2 {w0 W : World} {x l a b : Nat × Obj} {T : Hl} (h : Own w0 W (a :: b :: x :: l :: T)) : Own w0 W (x :: l :: a :: b :: T) := Own.swap3 (B := [a, b]) (R := [x, l]) (L := T) h
set_option maxHeartbeats 8000000 in
set_option maxRecDepth 100000 in
theorem get_full (w0 w : World) (L RK : Hl) (gl ga gb Z N NN : Nat) (A : Option Addr) (n c : Nat) (K : List (Int × Int)) (D : List (List Int)) (hN : LNum Z N NN) (hS : LSt Z N RK A n c K D) (x y : Int) (hk : kfind (x, y) K 0 = -1) (hf : n = N) (hO : Own w0 w ((gl, .cells #[.slice A n c, .pointer (some ⟨ga, 0, none⟩)] 140 (0, 0)) :: (ga, .cells #[.int .i64 (Z : Int), .slice (some ⟨gb, 0, none⟩) NN NN] 126 (0, 0)) :: (gb, .cells (u8s D.flatten) 5 (0, 0)) :: (RK ++ L))) :
    Calls Try.prog 35 #[.pointer (some ⟨gl, 0, none⟩), .agg #[.int .i64 x, .int .i64 y], .bool true] w fun e w' => e = .returned (.tuple #[.int .i64 0, .int .i64 28]) ∧ Own w0 w' ((gl, .cells #[.slice A n c, .pointer (some ⟨ga, 0, none⟩)] 140 (0, 0)) :: (ga, .cells #[.int .i64 (Z : Int), .slice (some ⟨gb, 0, none⟩) NN NN] 126 (0, 0)) :: (gb, .cells (u8s D.flatten) 5 (0, 0)) :: (RK ++ L)) := by
  have hui := Try.underlying3
  have hul := Try.underlying32
  have huk := Try.underlying54
  have huks := Try.underlying89
  have hup := Try.underlying24
  have HO : Aside0 (Own w0 w ((gl, .cells #[.slice A n c, .pointer (some ⟨ga, 0, none⟩)] 140 (0, 0)) :: (ga, .cells #[.int .i64 (Z : Int), .slice (some ⟨gb, 0, none⟩) NN NN] 126 (0, 0)) :: (gb, .cells (u8s D.flatten) 5 (0, 0)) :: (RK ++ L))) := ⟨hO⟩
  have HN := Aside0.mk hN
  have HS := Aside0.mk hS
  clear hO hN hS
  have HF := Aside0.mk hk
  have e1 : ((n : Int) == (N : Int)) = true := by simp [hf]
  have e1n : (n == N) = true := by simp [hf]
  have e1p := eq_true hf
  have e1i : ((n : Int) = (N : Int)) = True := by simp [hf]
  clear hk hf
  go_enter Try.func35, Try.ntmps35
  go_wp2_with (first | ((with_reducible refine gate_dst (N := 4) rfl ?_); refine own_box HO.out ?hg (N := 4) ?hd (cs := #[.int .i64 x, .int .i64 y]) (t := 54) ?hr ?_; (case hd => rfl); (case hg => rfl); (case hr => first | (go_simp; done) | (go_simp; rfl) | kernel_rfl); intro g4 w4 hO_; clear HO; have HO := Aside0.mk hO_; clear hO_) | ((with_reducible refine gate_dst (N := 12) rfl ?_); refine own_wload HO.out rfl (x := .tmp 4) rfl (by rfl) (by (repeat (first | exact .head | apply Ext.tail))) huk (by rfl) (by kernel_rfl) ?_) | ((with_reducible refine gate_callee (f := 79) rfl ?_); (with_reducible refine gate_dst (N := 13) rfl ?_); refine goesL_ (some 13) rfl rfl Try.func79 (by kernel_rfl) rfl #[.pointer (some ⟨gl, 0, none⟩), .agg #[.int .i64 x, .int .i64 y]] rfl (by (try simp only [List.map_toArray, List.map_cons, List.map_nil]); first | done | rfl) ?_; (with_reducible refine (find_r w0 _ ((g4, .cells #[.int .i64 x, .int .i64 y] 54 (0, 0)) :: L) RK gl ga gb Z N NN A n c K D x y _ HF.out HN.out HS.out HO.out.backK).mono ?_); rintro e wx ⟨rfl, hO_⟩; refine ⟨_, rfl, ?_⟩; have hO_ := hO_.frontK; clear HO; have HO := Aside0.mk hO_; clear hO_))
  refine start_ (n := 12) (S := fun W => Own w0 W ((gl, .cells #[.slice A n c, .pointer (some ⟨ga, 0, none⟩)] 140 (0, 0)) :: [])) (ds := []) #[false, false, false, false, false, false, false, false, false, false, false, false] (by kernel_rfl) rfl rfl (Own.drew (HO.out.picks (.cons (by (repeat (first | exact .head | apply Ext.tail))) (.nil)))) (fun hHeld => ?_)
  have HO_ := Aside0.mk HO.out.drew
  clear HO
  have HO := HO_
  clear HO_
  generalize World.drew _ = wr at HO hHeld ⊢
  refine Hp.pu_ 0 22 (Hp.up 12 1) ?_
  refine Hp.pu_ 1 23 (Hp.up 12 2) ?_
  refine Hp.pu_ 2 24 (Hp.up 12 3) ?_
  refine take_ (i := 3) (N := some 25) (v := .slice A n c) (a' := ?_) (Hp.up 12 4) rfl rfl (by kernel_rfl) (fun _ _ _ h => h) (own_yield1 (by rfl) (x := .tmp 24) rfl (by rfl) (.head) Try.underlying89 (by rfl) (by rfl)) hHeld ?_ ?_
  rotate_left
  · simp only [Act.put, List.setIfInBounds_toArray, List.set_cons_zero, List.set_cons_succ, i64_w, i32_w]
    rfl
  refine Hp.pu_ 4 26 (Hp.up 12 5) ?_
  refine Hp.pu_ 5 27 (Hp.up 12 6) ?_
  refine Hp.pu_ 6 28 (Hp.up 12 7) ?_
  refine Hp.pu_ 7 29 (Hp.up 12 8) ?_
  refine take_ (i := 8) (N := some 30) (v := .pointer (some ⟨ga, 0, none⟩)) (a' := ?_) (Hp.up 12 9) rfl rfl (by kernel_rfl) (fun _ _ _ h => h) (own_yield1 (by rfl) (x := .tmp 29) rfl (by rfl) (.head) Try.underlying24 (by rfl) (by rfl)) hHeld ?_ ?_
  rotate_left
  · simp only [Act.put, List.setIfInBounds_toArray, List.set_cons_zero, List.set_cons_succ, i64_w, i32_w]
    rfl
  refine one_ (i := 9) (N := some 31) (Hp.up 12 10) rfl rfl (by kernel_rfl) (by decide) (fun K hK => ?_)
  refine goes_ Try.func22 (by kernel_rfl) rfl #[.pointer (some ⟨ga, 0, none⟩)] (by rfl) rfl rfl (by (try simp only [List.map_toArray, List.map_cons, List.map_nil]); first | done | rfl) ?_
  have hQ_ : Own w0 _ ((ga, .cells #[.int .i64 (Z : Int), .slice (some ⟨gb, 0, none⟩) NN NN] 126 (0, 0)) :: (gb, .cells (u8s D.flatten) 5 (0, 0)) :: (g4, .cells #[.int .i64 x, .int .i64 y] 54 (0, 0)) :: ((gl, .cells #[.slice A n c, .pointer (some ⟨ga, 0, none⟩)] 140 (0, 0)) :: (RK ++ L))) := HO.out.frontA2
  refine (len_calls w0 _ ((g4, .cells #[.int .i64 x, .int .i64 y] 54 (0, 0)) :: (gl, .cells #[.slice A n c, .pointer (some ⟨ga, 0, none⟩)] 140 (0, 0)) :: (RK ++ L)) ga gb (Z : Int) NN D.flatten (N : Int) HN.out.hz.1 HN.out.hn HN.out.hs hQ_).mono ?_
  rintro e wx ⟨rfl, hO_⟩
  refine ⟨_, rfl, ?_⟩
  have hO_ := Own.backA2 hO_
  clear hQ_
  clear HO; have HO := Aside0.mk hO_; clear hO_
  refine hK.out _ _ (HO.out.picks (.cons (by (repeat (first | exact .head | apply Ext.tail))) (.nil))) (fun hHeld => ?_)
  clear hK K
  refine norm_ (a' := ?_) ?_ ?_
  rotate_left
  · show Act.put _ (some 31) _ = _
    simp only [Act.put, List.setIfInBounds_toArray, List.set_cons_zero, List.set_cons_succ, i64_w, i32_w]
    rfl
  refine Hp.pu_ 10 32 (Hp.up 12 11) ?_
  refine Hp.pu_ 11 21 (Hp.up 12 12) ?_
  refine done_ (by kernel_rfl) ?_
  clear hHeld
  go_wp2
  refine bodyPost_ret (results_tmp2 rfl _ _ _) rfl ?_
  exact ⟨rfl, HO.out.drop⟩
theorem _root_.Go.Proofs.Hp.Own.dropGet {w0 W : World} {l x y a b : Nat × Obj} {T : Hl} (h : Own w0 W (l :: x :: y :: a :: b :: T)) : Own w0 W (l :: a :: b :: T) := by
  have h1 : Own w0 W ((x :: y :: []) ++ ((l :: []) ++ (a :: b :: T))) := Own.swap3 (B := [l]) (R := [x, y]) (L := a :: b :: T) h
  exact h1.drop.drop
set_option maxHeartbeats 8000000 in
set_option maxRecDepth 100000 in
theorem get_new (w0 w : World) (L RK : Hl) (gl ga gb Z N NN : Nat) (A : Option Addr) (n c : Nat) (K : List (Int × Int)) (D : List (List Int)) (hN : LNum Z N NN) (hS : LSt Z N RK A n c K D) (x y : Int) (hk : kfind (x, y) K 0 = -1) (hf : n < N) (hO : Own w0 w ((gl, .cells #[.slice A n c, .pointer (some ⟨ga, 0, none⟩)] 140 (0, 0)) :: (ga, .cells #[.int .i64 (Z : Int), .slice (some ⟨gb, 0, none⟩) NN NN] 126 (0, 0)) :: (gb, .cells (u8s D.flatten) 5 (0, 0)) :: (RK ++ L))) :
    Calls Try.prog 35 #[.pointer (some ⟨gl, 0, none⟩), .agg #[.int .i64 x, .int .i64 y], .bool true] w fun e w' => e = .returned (.tuple #[.int .i64 (n : Int), .int .i64 0]) ∧ ∃ R2 A2 c2, LSt Z N R2 A2 (n + 1) c2 (K ++ [(x, y)]) (D.set n (List.replicate Z 0)) ∧ Own w0 w' ((gl, .cells #[.slice A2 (n + 1) c2, .pointer (some ⟨ga, 0, none⟩)] 140 (0, 0)) :: (ga, .cells #[.int .i64 (Z : Int), .slice (some ⟨gb, 0, none⟩) NN NN] 126 (0, 0)) :: (gb, .cells (u8s (D.set n (List.replicate Z 0)).flatten) 5 (0, 0)) :: (R2 ++ L)) := by
  have hui := Try.underlying3
  have hul := Try.underlying32
  have huk := Try.underlying54
  have huks := Try.underlying89
  have hup := Try.underlying24
  have HO : Aside0 (Own w0 w ((gl, .cells #[.slice A n c, .pointer (some ⟨ga, 0, none⟩)] 140 (0, 0)) :: (ga, .cells #[.int .i64 (Z : Int), .slice (some ⟨gb, 0, none⟩) NN NN] 126 (0, 0)) :: (gb, .cells (u8s D.flatten) 5 (0, 0)) :: (RK ++ L))) := ⟨hO⟩
  have HN := Aside0.mk hN
  have HS := Aside0.mk hS
  clear hO hN hS
  have HF := Aside0.mk hk
  have HFN := Aside0.mk hf
  have e1 : ((n : Int) == (N : Int)) = false := beq_eq_false_iff_ne.mpr (by omega)
  have e1n : (n == N) = false := beq_eq_false_iff_ne.mpr (by omega)
  have e1p := eq_false (show ¬ n = N by omega)
  have e1i : ((n : Int) = (N : Int)) = False := eq_false (by omega)
  have hw1 : IntKind.i64.wrap (((n + 1 : Nat) : Int) - 1) = (n : Int) := (IntWalk.i64_in _ (by have := HN.out.hn; omega)).trans (by omega)
  have hw2 : IntKind.i64.wrap ((n : Int) + 1 - 1) = (n : Int) := (IntWalk.i64_in _ (by have := HN.out.hn; omega)).trans (by omega)
  have hw3 : wrap64 (((n + 1 : Nat) : Int) - 1) = (n : Int) := (i64_w _).symm.trans hw1
  have hw4 : wrap64 ((n : Int) + 1 - 1) = (n : Int) := (i64_w _).symm.trans hw2
  have hw5 : IntKind.i64.wrap (n : Int) = (n : Int) := IntWalk.i64_in _ (by have := HN.out.hn; omega)
  have hw6 : wrap64 (n : Int) = (n : Int) := (i64_w _).symm.trans hw5
  clear hk hf
  go_enter Try.func35, Try.ntmps35
  go_wp2_with (first | ((with_reducible refine gate_dst (N := 4) rfl ?_); refine own_box HO.out ?hg (N := 4) ?hd (cs := #[.int .i64 x, .int .i64 y]) (t := 54) ?hr ?_; (case hd => rfl); (case hg => rfl); (case hr => first | (go_simp; done) | (go_simp; rfl) | kernel_rfl); intro g4 w4 hO_; clear HO; have HO := Aside0.mk hO_; clear hO_) | ((with_reducible refine gate_dst (N := 12) rfl ?_); refine own_wload HO.out rfl (x := .tmp 4) rfl (by rfl) (by (repeat (first | exact .head | apply Ext.tail))) huk (by rfl) (by kernel_rfl) ?_) | ((with_reducible refine gate_callee (f := 79) rfl ?_); (with_reducible refine gate_dst (N := 13) rfl ?_); refine goesL_ (some 13) rfl rfl Try.func79 (by kernel_rfl) rfl #[.pointer (some ⟨gl, 0, none⟩), .agg #[.int .i64 x, .int .i64 y]] rfl (by (try simp only [List.map_toArray, List.map_cons, List.map_nil]); first | done | rfl) ?_; (with_reducible refine (find_r w0 _ ((g4, .cells #[.int .i64 x, .int .i64 y] 54 (0, 0)) :: L) RK gl ga gb Z N NN A n c K D x y _ HF.out HN.out HS.out HO.out.backK).mono ?_); rintro e wx ⟨rfl, hO_⟩; refine ⟨_, rfl, ?_⟩; have hO_ := hO_.frontK; clear HO; have HO := Aside0.mk hO_; clear hO_))
  refine start_ (n := 12) (S := fun W => Own w0 W ((gl, .cells #[.slice A n c, .pointer (some ⟨ga, 0, none⟩)] 140 (0, 0)) :: [])) (ds := []) #[false, false, false, false, false, false, false, false, false, false, false, false] (by kernel_rfl) rfl rfl (Own.drew (HO.out.picks (.cons (by (repeat (first | exact .head | apply Ext.tail))) (.nil)))) (fun hHeld => ?_)
  have HO_ := Aside0.mk HO.out.drew
  clear HO
  have HO := HO_
  clear HO_
  generalize World.drew _ = wr at HO hHeld ⊢
  refine Hp.pu_ 0 22 (Hp.up 12 1) ?_
  refine Hp.pu_ 1 23 (Hp.up 12 2) ?_
  refine Hp.pu_ 2 24 (Hp.up 12 3) ?_
  refine take_ (i := 3) (N := some 25) (v := .slice A n c) (a' := ?_) (Hp.up 12 4) rfl rfl (by kernel_rfl) (fun _ _ _ h => h) (own_yield1 (by rfl) (x := .tmp 24) rfl (by rfl) (.head) Try.underlying89 (by rfl) (by rfl)) hHeld ?_ ?_
  rotate_left
  · simp only [Act.put, List.setIfInBounds_toArray, List.set_cons_zero, List.set_cons_succ, i64_w, i32_w]
    rfl
  refine Hp.pu_ 4 26 (Hp.up 12 5) ?_
  refine Hp.pu_ 5 27 (Hp.up 12 6) ?_
  refine Hp.pu_ 6 28 (Hp.up 12 7) ?_
  refine Hp.pu_ 7 29 (Hp.up 12 8) ?_
  refine take_ (i := 8) (N := some 30) (v := .pointer (some ⟨ga, 0, none⟩)) (a' := ?_) (Hp.up 12 9) rfl rfl (by kernel_rfl) (fun _ _ _ h => h) (own_yield1 (by rfl) (x := .tmp 29) rfl (by rfl) (.head) Try.underlying24 (by rfl) (by rfl)) hHeld ?_ ?_
  rotate_left
  · simp only [Act.put, List.setIfInBounds_toArray, List.set_cons_zero, List.set_cons_succ, i64_w, i32_w]
    rfl
  refine one_ (i := 9) (N := some 31) (Hp.up 12 10) rfl rfl (by kernel_rfl) (by decide) (fun K hK => ?_)
  refine goes_ Try.func22 (by kernel_rfl) rfl #[.pointer (some ⟨ga, 0, none⟩)] (by rfl) rfl rfl (by (try simp only [List.map_toArray, List.map_cons, List.map_nil]); first | done | rfl) ?_
  have hQ_ : Own w0 _ ((ga, .cells #[.int .i64 (Z : Int), .slice (some ⟨gb, 0, none⟩) NN NN] 126 (0, 0)) :: (gb, .cells (u8s D.flatten) 5 (0, 0)) :: (g4, .cells #[.int .i64 x, .int .i64 y] 54 (0, 0)) :: ((gl, .cells #[.slice A n c, .pointer (some ⟨ga, 0, none⟩)] 140 (0, 0)) :: (RK ++ L))) := HO.out.frontA2
  refine (len_calls w0 _ ((g4, .cells #[.int .i64 x, .int .i64 y] 54 (0, 0)) :: (gl, .cells #[.slice A n c, .pointer (some ⟨ga, 0, none⟩)] 140 (0, 0)) :: (RK ++ L)) ga gb (Z : Int) NN D.flatten (N : Int) HN.out.hz.1 HN.out.hn HN.out.hs hQ_).mono ?_
  rintro e wx ⟨rfl, hO_⟩
  refine ⟨_, rfl, ?_⟩
  have hO_ := Own.backA2 hO_
  clear hQ_
  clear HO; have HO := Aside0.mk hO_; clear hO_
  refine hK.out _ _ (HO.out.picks (.cons (by (repeat (first | exact .head | apply Ext.tail))) (.nil))) (fun hHeld => ?_)
  clear hK K
  refine norm_ (a' := ?_) ?_ ?_
  rotate_left
  · show Act.put _ (some 31) _ = _
    simp only [Act.put, List.setIfInBounds_toArray, List.set_cons_zero, List.set_cons_succ, i64_w, i32_w]
    rfl
  refine Hp.pu_ 10 32 (Hp.up 12 11) ?_
  refine Hp.pu_ 11 21 (Hp.up 12 12) ?_
  refine done_ (by kernel_rfl) ?_
  clear hHeld
  go_wp2
  try go_wp2
  refine start_ (n := 11) (S := fun W => Own w0 W ((gl, .cells #[.slice A n c, .pointer (some ⟨ga, 0, none⟩)] 140 (0, 0)) :: (g4, .cells #[.int .i64 x, .int .i64 y] 54 (0, 0)) :: [])) (ds := [10]) #[false, false, false, false, false, false, false, false, false, false, false] (by kernel_rfl) rfl rfl (Own.drew (HO.out.picks (.cons (by (repeat (first | exact .head | apply Ext.tail))) (.cons (by (repeat (first | exact .head | apply Ext.tail))) (.nil))))) (fun hHeld => ?_)
  have HO_ := Aside0.mk HO.out.drew
  clear HO
  have HO := HO_
  clear HO_
  generalize World.drew _ = wr at HO hHeld ⊢
  refine Hp.pu_ 0 33 (Hp.up 11 1) ?_
  refine Hp.pu_ 1 34 (Hp.up 11 2) ?_
  refine Hp.pu_ 2 35 (Hp.up 11 3) ?_
  refine Hp.pu_ 3 36 (Hp.up 11 4) ?_
  refine take_ (i := 4) (N := some 37) (v := .slice A n c) (a' := ?_) (Hp.up 11 5) rfl rfl (by kernel_rfl) (fun _ _ _ h => h) (own_yield1 (by rfl) (x := .tmp 36) rfl (by rfl) (.head) Try.underlying89 (by rfl) (by rfl)) hHeld ?_ ?_
  rotate_left
  · simp only [Act.put, List.setIfInBounds_toArray, List.set_cons_zero, List.set_cons_succ, i64_w, i32_w]
    rfl
  refine take_ (i := 5) (N := some 38) (v := .agg #[.int .i64 x, .int .i64 y]) (a' := ?_) (Hp.up 11 6) rfl rfl (by kernel_rfl) (fun _ _ _ h => h) (own_yieldN (by rfl) (x := .tmp 4) rfl (by rfl) (.tail (.head)) (vs := [.int .i64 x, .int .i64 y]) (by rfl) Try.underlying54 (by rfl) (by kernel_rfl) rfl) hHeld ?_ ?_
  rotate_left
  · simp only [Act.put, List.setIfInBounds_toArray, List.set_cons_zero, List.set_cons_succ, i64_w, i32_w]
    rfl
  refine one_ (i := 6) (N := some 39) (Hp.up 11 7) rfl rfl (by kernel_rfl) (by decide) (fun K hK => ?_)
  refine own_lit_k HO.out (by rfl) (N := 39) rfl (cs := #[.int .i64 x, .int .i64 y]) (t := 54) (n := 1) (m := 1) (by first | (go_simp; done) | (go_simp; rfl) | kernel_rfl) ?_
  intro g39 w39 hO_
  clear HO; have HO := Aside0.mk hO_; clear hO_
  refine hK.out _ _ (HO.out.picks (.cons (by (repeat (first | exact .head | apply Ext.tail))) (.cons (by (repeat (first | exact .head | apply Ext.tail))) (.nil)))) (fun hHeld => ?_)
  clear hK K
  refine norm_ (a' := ?_) ?_ ?_
  rotate_left
  · show Act.put _ (some 39) _ = _
    simp only [Act.put, List.setIfInBounds_toArray, List.set_cons_zero, List.set_cons_succ, i64_w, i32_w]
    rfl
  refine one_ (i := 7) (N := some 40) (Hp.up 11 8) rfl rfl (by kernel_rfl) (by decide) (fun K hK => ?_)
  refine own_append_k (z := .agg #[.int .i64 0, .int .i64 0]) (size := 2) (bytes := 16) (R := RK) (L := L) [(g39, .cells #[.int .i64 x, .int .i64 y] 54 (0, 0)), (g4, .cells #[.int .i64 x, .int .i64 y] 54 (0, 0)), (gl, .cells #[.slice A n c, .pointer (some ⟨ga, 0, none⟩)] 140 (0, 0)), (ga, .cells #[.int .i64 (Z : Int), .slice (some ⟨gb, 0, none⟩) NN NN] 126 (0, 0)), (gb, .cells (u8s D.flatten) 5 (0, 0))] HO.out (by rfl) (N := 40) rfl rfl huks (by kernel_rfl) rfl (by rfl) HS.out.row (by rfl) (HO.out.src huks .head 0 1 1 [.int .i64 x, .int .i64 y] rfl rfl (by simp [Value.oneCell'])) (by have := HS.out.nle; have := HN.out.hn; show n + 1 ≤ 9223372036854775807; omega) (by have := HS.out.nle; have := HN.out.hn; omega) ?_
  intro v2 R2 wc hR2 hO_
  obtain ⟨A2, c2, rfl⟩ := RowOf.shape hR2
  have HR2 := Aside0.mk hR2
  clear hR2
  have hO_ : Own w0 wc ((g39, .cells #[.int .i64 x, .int .i64 y] 54 (0, 0)) :: (g4, .cells #[.int .i64 x, .int .i64 y] 54 (0, 0)) :: (gl, .cells #[.slice A n c, .pointer (some ⟨ga, 0, none⟩)] 140 (0, 0)) :: (ga, .cells #[.int .i64 (Z : Int), .slice (some ⟨gb, 0, none⟩) NN NN] 126 (0, 0)) :: (gb, .cells (u8s D.flatten) 5 (0, 0)) :: (R2 ++ L)) := hO_
  clear HO; have HO := Aside0.mk hO_; clear hO_
  refine hK.out _ _ (HO.out.picks (.cons (by (repeat (first | exact .head | apply Ext.tail))) (.cons (by (repeat (first | exact .head | apply Ext.tail))) (.nil)))) (fun hHeld => ?_)
  clear hK K
  refine norm_ (a' := ?_) ?_ ?_
  rotate_left
  · show Act.put _ (some 40) _ = _
    simp only [Act.put, List.setIfInBounds_toArray, List.set_cons_zero, List.set_cons_succ, i64_w, i32_w]
    rfl
  refine Hp.pu_ 8 41 (Hp.up 11 9) ?_
  refine Hp.pu_ 9 42 (Hp.up 11 10) ?_
  refine last_ (i := 10) (N := none) (Hp.up 11 11) rfl rfl (by kernel_rfl) (by decide) (fun K hK => ?_)
  refine own_store_k HO.out (by rfl) rfl (ty := 89) (x := .tmp 42) (y := .tmp 40) (v := .slice A2 (n + 1) c2) (cs' := #[.slice A2 (n + 1) c2, .pointer (some ⟨ga, 0, none⟩)]) rfl (by rfl) (by rfl) (by (repeat (first | exact .head | apply Ext.tail))) (by kernel_rfl) (by rfl) (by first | decide | (simp; done)) (by rfl) ?_
  intro wc hO_
  clear HO; have HO := Aside0.mk hO_; clear hO_
  refine hK.out _ _ ?_
  clear hK K
  refine done_ (by kernel_rfl) ?_
  clear hHeld
  have HS2 : Aside0 (LSt Z N R2 A2 (n + 1) c2 (K ++ [(x, y)]) D) := ⟨⟨by rw [kcells_app]; exact HR2.out, by rw [List.length_append, HS.out.kl]; rfl, HFN.out, HS.out.dl, HS.out.dz⟩⟩
  have hO_ : Own w0 _ ((gl, .cells #[.slice A2 (n + 1) c2, .pointer (some ⟨ga, 0, none⟩)] 140 (0, 0)) :: (ga, .cells #[.int .i64 (Z : Int), .slice (some ⟨gb, 0, none⟩) NN NN] 126 (0, 0)) :: (gb, .cells (u8s D.flatten) 5 (0, 0)) :: (R2 ++ L)) := Own.dropGet HO.out
  clear HO; have HO := Aside0.mk hO_; clear hO_
  go_wp2_with (first | ((with_reducible refine gate_dst (N := 46) rfl ?_); refine own_load HO.out rfl (x := .tmp 45) (v := .slice A2 (n + 1) c2) rfl (by rfl) (by (repeat (first | exact .head | apply Ext.tail))) huks (by rfl) (by rfl) ?_) | ((with_reducible refine gate_callee (f := 80) rfl ?_); (with_reducible refine gate_dst (N := 51) rfl ?_); refine goesL_ (some 51) rfl rfl Try.func80 (by kernel_rfl) rfl #[.pointer (some ⟨gl, 0, none⟩), .int .i64 (n : Int)] rfl (by (try simp only [List.map_toArray, List.map_cons, List.map_nil]); first | done | rfl) ?_; (with_reducible refine (clear_calls w0 _ L R2 gl ga gb Z N NN A2 (n + 1) c2 (K ++ [(x, y)]) D HN.out HS2.out n HFN.out HO.out).mono ?_); rintro e wx ⟨rfl, hO_⟩; refine ⟨_, rfl, ?_⟩; clear HO; have HO := Aside0.mk hO_; clear hO_))
  refine bodyPost_ret (results_tmp2 rfl _ _ _) rfl ?_
  exact ⟨rfl, R2, A2, c2, ⟨HS2.out.row, HS2.out.kl, HS2.out.nle, by rw [List.length_set]; exact HS2.out.dl, fun d hd => by rcases List.mem_or_eq_of_mem_set hd with h | rfl; exact HS2.out.dz d h; simp⟩, HO.out⟩
end Go.Proofs.Lc
