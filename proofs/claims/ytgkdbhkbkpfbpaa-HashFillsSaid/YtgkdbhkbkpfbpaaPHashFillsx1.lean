/- Functions of the program that some laws reach, as Lean functions, and proofs that the program's calls come to what they say: written by a program, for the texts that import it; each theorem bears its own conditions. -/
import Derived.Test.YtgkdbhkbkpfbpaaPHashFillsx0
namespace Go.Proofs.Ytgkdbhkbkpfbpaa.PHashFills
open Go.RowKit Go.Proofs.YtgkdbhkbkpfbpaaW.PrintWords Go.Proofs.YtgkdbhkbkpfbpaaW.PrintLast Go.Proofs.YtgkdbhkbkpfbpaaW.PrintMore
attribute [local go_sem] max2_int min2_int max_two min_two max_three min_three max_four min_four   -- for this text's walks alone
set_option linter.unusedVariables false
set_option linter.unusedSimpArgs false

/-! ### halberdlaw11_HashFills: function 8 -/
open Go.Proofs.Hp Go.Proofs.Ev Go.Proofs.Ar Go.Proofs.Rg Go.Proofs.Hh
attribute [local go_sem] eql_slice_nil
theorem str_ne {xs ys : List Int} {k : Nat} {a b : Int} (h1 : xs[k]? = some a) (h2 : ys[k]? = some b) (ha : 0 ≤ a ∧ a < 256) (hb : 0 ≤ b ∧ b < 256) (hne : a ≠ b) : strOfNums xs ≠ strOfNums ys := by
  intro h
  have h3 := congrArg (fun s => s.data.toList[k]?) h
  simp only [strOfNums_data, List.getElem?_map, h1, h2, Option.map_some, Option.some.injEq] at h3
  have h4 := congrArg UInt8.toNat h3
  simp only [UInt8.toNat_ofNat'] at h4
  omega
/-- The key of a number. -/
def kb (size i : Nat) : List Int := (List.replicate size 0).set (size - 1) (i : Int)
def kmore (size : Nat) : List Int := (List.replicate size 0).set 0 200
theorem kb_at {size i : Nat} (h : 1 ≤ size) : (kb size i)[size - 1]? = some (i : Int) := by
  unfold kb
  rw [List.getElem?_set_self (by simp; omega)]
theorem kb_zero {size i : Nat} (h : 1 ≤ size) : ∃ b : Int, (kb size i)[0]? = some b ∧ 0 ≤ b ∧ b ≤ (i : Int) := by
  unfold kb
  by_cases h1 : size = 1
  · subst h1
    exact ⟨i, by simp, by omega, Int.le_refl _⟩
  · refine ⟨0, ?_, by omega, by omega⟩
    rw [List.getElem?_set_ne (by omega), List.getElem?_replicate, if_pos (by omega)]
theorem kb_ne {size i j : Nat} (h : 1 ≤ size) (hi : i < 200) (hj : j < 200) (hne : i ≠ j) : strOfNums (kb size i) ≠ strOfNums (kb size j) := str_ne (kb_at h) (kb_at h) (by omega) (by omega) (by omega)
theorem kmore_ne {size j : Nat} (h : 1 ≤ size) (hj : j < 200) : strOfNums (kmore size) ≠ strOfNums (kb size j) := by
  obtain ⟨b, h1, h2, h3⟩ := kb_zero (i := j) h
  refine str_ne (k := 0) (a := 200) ?_ h1 (by omega) (by omega) (by omega)
  unfold kmore
  rw [List.getElem?_set_self (by simp; omega)]
/-- What is kept behind i keys. -/
def mk (size i : Nat) : List (ByteArray × Int × Nat) := (List.range i).map fun (j : Nat) => (strOfNums (kb size j), (j : Int), j)
theorem mk_succ (size i : Nat) : mk size (i + 1) = mk size i ++ [(strOfNums (kb size i), (i : Int), i)] := by simp [mk, List.range_succ]
theorem findS_none (s : ByteArray) : ∀ (M : List (ByteArray × Int × Nat)) (i : Nat), (∀ e ∈ M, s ≠ e.1) → findS s M i = none
  | [], _, _ => rfl
  | e :: M, i, h => by
    rw [findS, if_neg (h e (List.mem_cons_self ..))]
    exact findS_none s M (i + 1) fun x hx => h x (List.mem_cons_of_mem _ hx)
theorem fnd_absent {s : ByteArray} {M : List (ByteArray × Int × Nat)} (h : ∀ e ∈ M, s ≠ e.1) : fnd s M = (0, false) := by
  unfold fnd
  rw [findS_none s M 0 h]
theorem fnd_key {size i : Nat} (h : 1 ≤ size) (hi : i < 100) : fnd (strOfNums (kb size i)) (mk size i) = (0, false) := by
  refine fnd_absent fun e he => ?_
  simp only [mk, List.mem_map, List.mem_range] at he
  obtain ⟨j, hj, rfl⟩ := he
  exact kb_ne h (by omega) (by omega) (by omega)
theorem fnd_more {size i : Nat} (h : 1 ≤ size) (hi : i < 100) : fnd (strOfNums (kmore size)) (mk size i) = (0, false) := by
  refine fnd_absent fun e he => ?_
  simp only [mk, List.mem_map, List.mem_range] at he
  obtain ⟨j, hj, rfl⟩ := he
  exact kmore_ne h (by omega)
/-- The numbers from i on below m. -/
def nf (i m : Nat) : List Int := (List.range' i (m - i)).map fun (k : Nat) => (k : Int)
theorem nf_zero (m : Nat) : nf 0 m = Hh.nums m := by unfold nf Hh.nums; rw [List.range_eq_range']; rfl
theorem nf_cons {i m : Nat} (h : i < m) : nf i m = (i : Int) :: nf (i + 1) m := by
  unfold nf
  have e : m - i = (m - (i + 1)) + 1 := by omega
  rw [e, List.range'_succ]
  rfl
theorem nf_len (i m : Nat) : (nf i m).length = m - i := by simp [nf]
theorem nf_ge {i m : Nat} : ∀ x ∈ nf i m, (i : Int) ≤ x := by
  intro x hx
  simp only [nf, List.mem_map, List.mem_range'_1] at hx
  obtain ⟨k, hk, rfl⟩ := hx
  omega
theorem nf_min {fl : List Int} {i m : Nat} (hH : Heap fl) (hp : fl.Perm (nf i m)) (h : i < m) : fl.getD 0 0 = (i : Int) ∧ (popF fl).Perm (nf (i + 1) m) := by
  have hne : fl ≠ [] := by
    intro h0
    have := hp.length_eq
    rw [h0, nf_len] at this
    simp at this
    omega
  have hpos : 0 < fl.length := List.length_pos_iff.2 hne
  have h0 : fl.getD 0 0 ∈ fl := by
    have : fl.getD 0 0 = fl[0] := by simp [List.getD_eq_getElem?_getD, List.getElem?_eq_getElem hpos]
    rw [this]
    exact List.getElem_mem hpos
  have hi : (i : Int) ∈ fl := hp.mem_iff.2 (by rw [nf_cons h]; exact List.mem_cons_self ..)
  have e : fl.getD 0 0 = (i : Int) := Int.le_antisymm (heap_min_mem hH _ hi) (nf_ge _ (hp.mem_iff.1 h0))
  refine ⟨e, ?_⟩
  have h1 := (pop_perm hne).symm.trans hp
  rw [e, nf_cons h] at h1
  exact List.Perm.cons_inv h1
/-- The slots' bytes behind i keys. -/
def dk (m : Nat) : Nat → List (List Int)
  | 0 => List.replicate m (List.replicate 1 0)
  | i + 1 => (dk m i).set i [((100 + i : Nat) : Int)]
theorem dk_len (m : Nat) : ∀ i, (dk m i).length = m
  | 0 => by simp [dk]
  | i + 1 => by rw [dk, List.length_set, dk_len m i]
theorem dk_at {m : Nat} : ∀ (i j : Nat), j < i → i ≤ m → (dk m i)[j]? = some [((100 + j : Nat) : Int)]
  | 0, _, h, _ => by omega
  | i + 1, j, h, hm => by
    rw [dk]
    by_cases e : j = i
    · subst e
      rw [List.getElem?_set_self (by rw [dk_len]; omega)]
    · rw [List.getElem?_set_ne (by omega)]
      exact dk_at i j (by omega) (by omega)
theorem flat1_at : ∀ (D : List (List Int)) (k : Nat) (x : Int), (∀ d ∈ D, d.length = 1) → D[k]? = some [x] → D.flatten[k]? = some x
  | [], _, _, _, h => by simp at h
  | d :: D, 0, x, _, h => by
    simp only [List.getElem?_cons_zero, Option.some.injEq] at h
    subst h
    rfl
  | d :: D, k + 1, x, hd, h => by
    have h1 : d.length = 1 := hd d (List.mem_cons_self ..)
    rw [List.flatten_cons, List.getElem?_append_right (by omega), h1, Nat.add_sub_cancel]
    exact flat1_at D k x (fun y hy => hd y (List.mem_cons_of_mem _ hy)) (by simpa using h)
theorem kb_set {size i : Nat} : (u8s (List.replicate size 0)).setIfInBounds (size - 1) (.int .u8 (i : Int)) = u8s (kb size i) := by
  apply Array.ext'
  simp [u8s, kb, List.map_set]
theorem kmore_set {size : Nat} : (u8s (List.replicate size 0)).setIfInBounds 0 (.int .u8 200) = u8s (kmore size) := by
  apply Array.ext'
  simp [u8s, kmore, List.map_set]
set_option maxHeartbeats 8000000 in
set_option maxRecDepth 100000 in
theorem hash_fills_ok (w : World) (a0 a1 : Int) (m1 m2 size most : Nat) (h0 : a0.tmod 8 = (m1 : Int)) (hs : m1 + 1 = size) (hs8 : size ≤ 8) (h1 : a1.tmod 16 = (m2 : Int)) (hm : m2 + 1 = most) (hm16 : most ≤ 16) :
    Calls Try.prog 8 #[.int .u8 a0, .int .u8 a1] w fun e w' => e = .returned (.bool true) ∧ Below w.heap.size w w' := by
  have hui := Try.underlying3
  have hul := Try.underlying32
  have hu8 := Try.underlying5
  have hus := Try.underlying9
  have hum := Try.underlying143
  have huf := Try.underlying145
  have huh := Try.underlying147
  have huap := Try.underlying24
  have HSI : Aside0 ((1 ≤ size ∧ size ≤ 8) ∧ (1 ≤ most ∧ most ≤ 16)) := ⟨by omega⟩
  have HSZ : Aside0 (1 * size ≤ 281474976710656 ∧ size ≤ maxLen) := ⟨by omega, by show size ≤ 9223372036854775807; omega⟩
  have HSB : Aside0 (m1 < (u8s (List.replicate size 0)).size) := ⟨by simp [u8s]; omega⟩
  have HSB0 : Aside0 (0 < (u8s (List.replicate size 0)).size) := ⟨by simp [u8s]; omega⟩
  have HKM : Aside0 ((u8s (List.replicate size 0)).setIfInBounds 0 (.int .u8 200) = u8s (kmore size)) := ⟨kmore_set⟩
  have HM1 : Aside0 (m1 = size - 1) := ⟨by omega⟩
  have HRM : ∀ g, Aside0 (RowOf 5 1 [(g, .cells (u8s (kmore size)) 5 (0, 0))] (.slice (some ⟨g, 0, none⟩) size size) size ((kmore size).map (Value.int .u8))) := fun g => ⟨row_u8 (by simp [kmore]) (by omega)⟩
  have W1 := w_of (x := (m1 : Int)) (y := (m1 : Int)) rfl (by omega)
  have W2 := w_of (x := (m1 : Int) + 1) (y := (size : Int)) (by omega) (by omega)
  have W3 := w_of (x := (m2 : Int)) (y := (m2 : Int)) rfl (by omega)
  have W4 := w_of (x := (m2 : Int) + 1) (y := (most : Int)) (by omega) (by omega)
  have W5 := w_of (x := (size : Int) - 1) (y := (m1 : Int)) (by omega) (by omega)
  have HV1 : Aside0 (IntKind.u8.wrap (m1 : Int) = (m1 : Int)) := ⟨IntWalk.u8_in _ (by omega)⟩
  have HV2 : Aside0 (IntKind.u8.wrap (m2 : Int) = (m2 : Int)) := ⟨IntWalk.u8_in _ (by omega)⟩
  have p1 := eq_true (show 0 ≤ (m1 : Int) by omega)
  have q1 := eq_true (show (m1 : Int) < (size : Int) by omega)
  have q1n := eq_true (show m1 < size by omega)
  have q0 := eq_true (show (0 : Int) < (size : Int) by omega)
  have q0n := eq_true (show 0 < size by omega)
  have HO := Aside0.mk (Own.refl w)
  clear hs hs8 hm hm16
  have u1 := W1.out.1; have u1b := W1.out.2; have u2 := W2.out.1; have u2b := W2.out.2; have u3 := W3.out.1; have u3b := W3.out.2; have u4 := W4.out.1; have u4b := W4.out.2; have u5 := W5.out.1; have u5b := W5.out.2
  have v1 := HV1.out; have v2 := HV2.out
  go_enter Try.func8, Try.ntmps8
  go_wp2_with (first | ((with_reducible refine gate_callee (f := 40) rfl ?_); (with_reducible refine gate_dst (N := 19) rfl ?_); refine goesL_ (some 19) rfl rfl Try.func40 (by kernel_rfl) rfl #[] rfl (by (try simp only [List.map_toArray, List.map_cons, List.map_nil]); first | done | rfl) ?_; (with_reducible refine (hash_alive _).mono ?_); rintro e wx ⟨rfl, hb⟩; refine ⟨_, rfl, ?_⟩; have hO_ := HO.out.below hb; clear hb; clear HO; have HO := Aside0.mk hO_; clear hO_) | ((with_reducible refine gate_callee (f := 41) rfl ?_); (with_reducible refine gate_dst (N := 32) rfl ?_); refine goesL_ (some 32) rfl rfl Try.func41 (by kernel_rfl) rfl #[.int .i64 (size : Int), .int .i64 1, .int .i64 (most : Int)] rfl (by (try simp only [List.map_toArray, List.map_cons, List.map_nil]); first | done | rfl) ?_; (with_reducible refine (hnew_ok2 w _ [] (size : Int) 1 (most : Int) size 1 most most rfl rfl rfl HSI.out.1 (by decide) HSI.out.2 (Nat.mul_one most).symm HO.out).mono ?_); rintro e wx ⟨gh, rfl, gm, ga, gb, R, A, n, c, clk, M, fl, D, hM, hck, hD, hHp, hfl, hS, hO_⟩; refine ⟨_, rfl, ?_⟩; have HM := Aside0.mk hM; have HCK := Aside0.mk hck; have HD := Aside0.mk hD; have HFL := Aside0.mk (And.intro hHp hfl); have HS := Aside0.mk hS; clear hM hck hD hHp hfl hS; clear HO; have HO := Aside0.mk hO_; clear hO_))
  clear u1 u1b u2 u2b u3 u3b u4 u4b u5 u5b v1 v2
  go_loopg [9] most (fun gk v9 w' => ∃ (i n c clk : Nat) (A : Option Addr) (R : Hl) (M : List (ByteArray × Int × Nat)) (fl : List Int) (D : List (List Int)), v9 = .int .i64 (i : Int) ∧ Aside0 (i + gk = most) ∧ Aside0 (M = mk size i ∧ clk = i ∧ Heap fl ∧ fl.Perm (nf i most) ∧ D = dk most i) ∧ Aside0 (HSt size 1 most most R A n c clk M fl D) ∧ Aside0 (Own w w' ((gh, .cells #[.int .i64 (size : Int), .map (some gm), .slice A n c, .pointer (some ⟨ga, 0, none⟩)] 147 (0, 0)) :: (gm, .map (ents M) clk) :: (R ++ ((ga, .cells #[.int .i64 ((1 : Nat) : Int), .slice (some ⟨gb, 0, none⟩) most most] 126 (0, 0)) :: (gb, .cells (u8s D.flatten) 5 (0, 0)) :: [])))))
  case atStart => exact ⟨0, n, c, clk, A, R, M, fl, D, rfl, ⟨Nat.zero_add _⟩, ⟨HM.out, HCK.out, HFL.out.1, by rw [nf_zero]; exact HFL.out.2, HD.out⟩, HS, HO⟩
  case round =>
    clear HO HS HM HCK HD HFL
    obtain ⟨i, n, c, clk, A, R, M, fl, D, rfl, HI, HF, HS, HO⟩ := hrel
    have hnl : n = most - i := by rw [← HS.out.fll, HF.out.2.2.2.1.length_eq, nf_len]
    cases gk with
    | succ m =>
      have hin : i < most := by have := HI.out; omega
      have e1 : decide ((i : Int) < (most : Int)) = true := decide_eq_true (by omega)
      have e1n : decide (i < most) = true := decide_eq_true hin
      obtain ⟨hv, hhv⟩ : ∃ hv : Nat, hv = 100 + i := ⟨_, rfl⟩
      have hmin := nf_min HF.out.2.2.1 HF.out.2.2.2.1 hin
      have HIN := Aside0.mk hin
      have HMN := Aside0.mk hmin.1
      have HNP : Aside0 (0 < n) := ⟨by omega⟩
      have HFN : Aside0 (fnd (strOfNums (kb size i)) M = (0, false)) := ⟨by rw [HF.out.1]; exact fnd_key HSI.out.1.1 (by have := HSI.out; omega)⟩
      have HKS : Aside0 ((u8s (List.replicate size 0)).setIfInBounds m1 (.int .u8 (i : Int)) = u8s (kb size i)) := ⟨by rw [HM1.out]; exact kb_set⟩
      have HRW : ∀ g, Aside0 (RowOf 5 1 [(g, .cells (u8s (kb size i)) 5 (0, 0))] (.slice (some ⟨g, 0, none⟩) size size) size ((kb size i).map (Value.int .u8))) := fun g => ⟨row_u8 (by simp [kb]) (by have := HSI.out; omega)⟩
      have HF2 : Aside0 (mk size (i + 1) = M ++ [(strOfNums (kb size i), (i : Int), clk)] ∧ clk + 1 = i + 1 ∧ Heap (popF fl) ∧ (popF fl).Perm (nf (i + 1) most) ∧ dk most (i + 1) = D.set i [(hv : Int)]) := ⟨by rw [mk_succ, HF.out.1, HF.out.2.1], by rw [HF.out.2.1], pop_heap HF.out.2.2.1 (by intro h0; have := HS.out.fll; rw [h0] at this; simp at this; omega), hmin.2, by rw [HF.out.2.2.2.2, hhv]; rfl⟩
      have X1 := w_of (x := 100 + (i : Int)) (y := (hv : Int)) (by omega) (by have := HSI.out; omega)
      have X2 := w_of (x := (i : Int) + 1) (y := ((i + 1 : Nat) : Int)) (by omega) (by have := HSI.out; omega)
      have X3 := w_of (x := (i : Int) + 100) (y := (hv : Int)) (by omega) (by have := HSI.out; omega)
      have Y1 : Aside0 (IntKind.u8.wrap (i : Int) = (i : Int)) := ⟨IntWalk.u8_in _ (by have := HSI.out; omega)⟩
      have Y2 : Aside0 (IntKind.u8.wrap (hv : Int) = (hv : Int)) := ⟨IntWalk.u8_in _ (by have := HSI.out; omega)⟩
      have x1 := X1.out.1; have x1b := X1.out.2; have x2 := X2.out.1; have x2b := X2.out.2; have x3 := X3.out.1; have x3b := X3.out.2; have y1 := Y1.out; have y2 := Y2.out
      have u5 := W5.out.1; have u5b := W5.out.2
      clear hin hmin hhv hnl
      go_wp2_with (first | ((with_reducible refine gate_dst (N := 47) rfl ?_); refine own_make (z := .int .u8 0) (size := 1) (bytes := 1) (n := size) HO.out rfl rfl hul (by kernel_rfl) rfl (by rfl) (by rfl) HSZ.out.1 HSZ.out.2 (made_u8 size) ?_; intro g47 w47 hO_; clear HO; have HO := Aside0.mk hO_; clear hO_) | ((with_reducible refine gate_store (p := 53) rfl ?_); refine own_store HO.out rfl (ty := 5) (x := .tmp 53) (y := .tmp 52) (v := .int .u8 (i : Int)) (cs' := u8s (kb size i)) rfl (by rfl) (by rfl) .head (by kernel_rfl) (by rfl) HSB.out HKS.out ?_; intro wc hO_; clear HO; have HO := Aside0.mk hO_; clear hO_) | ((with_reducible refine gate_dst (N := 60) rfl ?_); refine own_lit HO.out ?hg (N := 60) ?hd (cs := #[.int .u8 (hv : Int)]) (t := 5) (n := 1) (m := 1) ?hr ?_; (case hd => rfl); (case hg => rfl); (case hr => first | (go_simp; done) | (go_simp; rfl) | kernel_rfl); intro g60 w60 hO_; clear HO; have HO := Aside0.mk hO_; clear hO_) | ((with_reducible refine gate_callee (f := 42) rfl ?_); (with_reducible refine gate_dst (N := 61) rfl ?_); refine goesL_ (some 61) rfl rfl Try.func42 (by kernel_rfl) rfl #[.pointer (some ⟨gh, 0, none⟩), .slice (some ⟨g47, 0, none⟩) size size, .slice (some ⟨g60, 0, none⟩) 1 1, .int .u64 0] rfl (by (try simp only [List.map_toArray, List.map_cons, List.map_nil]); first | done | rfl) ?_; (with_reducible refine (hput_new w _ [(g60, .cells #[.int .u8 (hv : Int)] 5 (0, 0)), (g47, .cells (u8s (kb size i)) 5 (0, 0))] R gh gm ga gb size 1 most most A n c clk M fl D HS.out size (some ⟨g47, 0, none⟩) (strOfNums (kb size i)) (fun W X h => RowOf.string (P := Try.prog) (L := X ++ [(g60, .cells #[.int .u8 (hv : Int)] 5 (0, 0))]) hul hu8 hus (HRW g47).out (h.repr2 [] (by classical exact List.perm_iff_count.2 (fun a => by simp only [List.count_append, List.count_cons, List.count_nil, List.append_assoc, List.cons_append, List.nil_append] <;> ac_rfl)))) ⟨g60, 0, none⟩ 1 [(hv : Int)] rfl (fun W X h j u hj => lit_cells h (g := g60) (vs := ([(hv : Int)] : List Int).map (Value.int .u8)) (Ext.app (.head) X) j u hj) 0 (.inl rfl) i i HIN.out (Nat.mul_one i).symm 0 HFN.out HNP.out HMN.out (HO.out.repr2 (L' := ((gh, .cells #[.int .i64 (size : Int), .map (some gm), .slice A n c, .pointer (some ⟨ga, 0, none⟩)] 147 (0, 0)) :: (gm, .map (ents M) clk) :: (R ++ ((ga, .cells #[.int .i64 ((1 : Nat) : Int), .slice (some ⟨gb, 0, none⟩) most most] 126 (0, 0)) :: (gb, .cells (u8s D.flatten) 5 (0, 0)) :: [(g60, .cells #[.int .u8 (hv : Int)] 5 (0, 0)), (g47, .cells (u8s (kb size i)) 5 (0, 0))])))) [] (by classical exact List.perm_iff_count.2 (fun a => by simp only [List.count_append, List.count_cons, List.count_nil, List.append_assoc, List.cons_append, List.nil_append] <;> ac_rfl)))).mono ?_); rintro e wx ⟨rfl, R2, A2, n2, c2, clk2, M2, fl2, D2, hn2, hck2, hM2, hfl2, hD2, hS2, hO_⟩; refine ⟨_, rfl, ?_⟩; have HN2 := Aside0.mk hn2; have HCK2 := Aside0.mk hck2; have HM2 := Aside0.mk hM2; have HFL2 := Aside0.mk hfl2; have HD2 := Aside0.mk hD2; have HS2 := Aside0.mk hS2; clear hn2 hck2 hM2 hfl2 hD2 hS2; have hO_ := hO_.repr2 (L' := ((gh, .cells #[.int .i64 (size : Int), .map (some gm), .slice A2 n2 c2, .pointer (some ⟨ga, 0, none⟩)] 147 (0, 0)) :: (gm, .map (ents M2) clk2) :: (R2 ++ ((ga, .cells #[.int .i64 ((1 : Nat) : Int), .slice (some ⟨gb, 0, none⟩) most most] 126 (0, 0)) :: (gb, .cells (u8s D2.flatten) 5 (0, 0)) :: [])))) [(g60, .cells #[.int .u8 (hv : Int)] 5 (0, 0)), (g47, .cells (u8s (kb size i)) 5 (0, 0))] (by classical exact List.perm_iff_count.2 (fun a => by simp only [List.count_append, List.count_cons, List.count_nil, List.append_assoc, List.cons_append, List.nil_append] <;> ac_rfl)); clear HO; have HO := Aside0.mk hO_; clear hO_))
      go_roundg m
      case measure => clear x1 x1b x2 x2b x3 x3b y1 y2 u5 u5b; omega
      case rel => exact ⟨i + 1, n2, c2, clk2, A2, R2, M2, fl2, D2, rfl, ⟨by clear x1 x1b x2 x2b x3 x3b y1 y2 u5 u5b; have := HI.out; omega⟩, ⟨by rw [HM2.out]; exact HF2.out.1.symm, by rw [HCK2.out]; exact HF2.out.2.1, by rw [HFL2.out]; exact HF2.out.2.2.1, by rw [HFL2.out]; exact HF2.out.2.2.2.1, by rw [HD2.out]; exact HF2.out.2.2.2.2.symm⟩, HS2, HO⟩
    | zero =>
      have him : i = most := by have := HI.out; omega
      have e1 : decide ((i : Int) < (most : Int)) = false := decide_eq_false (by omega)
      have e1n : decide (i < most) = false := decide_eq_false (by omega)
      have HN0 : Aside0 (n = 0) := ⟨by omega⟩
      have HFM : Aside0 (fnd (strOfNums (kmore size)) M = (0, false)) := ⟨by rw [HF.out.1]; exact fnd_more HSI.out.1.1 (by have := HSI.out; omega)⟩
      have HML : Aside0 (M.length = most) := ⟨by rw [HF.out.1]; simp [mk, him]⟩
      have HDK : Aside0 (D = dk most most) := ⟨by rw [HF.out.2.2.2.2, him]⟩
      clear him hnl
      go_wp2_with (first | ((with_reducible refine gate_dst (N := 72) rfl ?_); refine own_make (z := .int .u8 0) (size := 1) (bytes := 1) (n := size) HO.out rfl rfl hul (by kernel_rfl) rfl (by rfl) (by rfl) HSZ.out.1 HSZ.out.2 (made_u8 size) ?_; intro g72 w72 hO_; clear HO; have HO := Aside0.mk hO_; clear hO_) | ((with_reducible refine gate_store (p := 74) rfl ?_); refine own_store HO.out rfl (ty := 5) (x := .tmp 74) (y := .const (.int .u8 200)) (v := .int .u8 200) (cs' := u8s (kmore size)) rfl (by rfl) (by rfl) .head (by kernel_rfl) (by rfl) HSB0.out HKM.out ?_; intro wc hO_; clear HO; have HO := Aside0.mk hO_; clear hO_) | ((with_reducible refine gate_dst (N := 78) rfl ?_); refine own_lit HO.out ?hg (N := 78) ?hd (cs := #[.int .u8 1]) (t := 5) (n := 1) (m := 1) ?hr ?_; (case hd => rfl); (case hg => rfl); (case hr => first | (go_simp; done) | (go_simp; rfl) | kernel_rfl); intro g78 w78 hO_; clear HO; have HO := Aside0.mk hO_; clear hO_) | ((with_reducible refine gate_callee (f := 42) rfl ?_); (with_reducible refine gate_dst (N := 79) rfl ?_); refine goesL_ (some 79) rfl rfl Try.func42 (by kernel_rfl) rfl #[.pointer (some ⟨gh, 0, none⟩), .slice (some ⟨g72, 0, none⟩) size size, .slice (some ⟨g78, 0, none⟩) 1 1, .int .u64 0] rfl (by (try simp only [List.map_toArray, List.map_cons, List.map_nil]); first | done | rfl) ?_; (with_reducible refine (hput_nospc w _ [(g78, .cells #[.int .u8 1] 5 (0, 0)), (g72, .cells (u8s (kmore size)) 5 (0, 0))] R gh gm ga gb size 1 most most A n c clk M fl D HS.out size (some ⟨g72, 0, none⟩) (strOfNums (kmore size)) (fun W X h => RowOf.string (P := Try.prog) (L := X ++ [(g78, .cells #[.int .u8 1] 5 (0, 0))]) hul hu8 hus (HRM g72).out (h.repr2 [] (by classical exact List.perm_iff_count.2 (fun a => by simp only [List.count_append, List.count_cons, List.count_nil, List.append_assoc, List.cons_append, List.nil_append] <;> ac_rfl)))) (some ⟨g78, 0, none⟩) 1 0 (.inl rfl) 0 HFM.out HN0.out (HO.out.repr2 (L' := ((gh, .cells #[.int .i64 (size : Int), .map (some gm), .slice A n c, .pointer (some ⟨ga, 0, none⟩)] 147 (0, 0)) :: (gm, .map (ents M) clk) :: (R ++ ((ga, .cells #[.int .i64 ((1 : Nat) : Int), .slice (some ⟨gb, 0, none⟩) most most] 126 (0, 0)) :: (gb, .cells (u8s D.flatten) 5 (0, 0)) :: [(g78, .cells #[.int .u8 1] 5 (0, 0)), (g72, .cells (u8s (kmore size)) 5 (0, 0))])))) [] (by classical exact List.perm_iff_count.2 (fun a => by simp only [List.count_append, List.count_cons, List.count_nil, List.append_assoc, List.cons_append, List.nil_append] <;> ac_rfl)))).mono ?_); rintro e wx ⟨rfl, hO_⟩; refine ⟨_, rfl, ?_⟩; have hO_ := hO_.repr2 (L' := ((gh, .cells #[.int .i64 (size : Int), .map (some gm), .slice A n c, .pointer (some ⟨ga, 0, none⟩)] 147 (0, 0)) :: (gm, .map (ents M) clk) :: (R ++ ((ga, .cells #[.int .i64 ((1 : Nat) : Int), .slice (some ⟨gb, 0, none⟩) most most] 126 (0, 0)) :: (gb, .cells (u8s D.flatten) 5 (0, 0)) :: [])))) [(g78, .cells #[.int .u8 1] 5 (0, 0)), (g72, .cells (u8s (kmore size)) 5 (0, 0))] (by classical exact List.perm_iff_count.2 (fun a => by simp only [List.count_append, List.count_cons, List.count_nil, List.append_assoc, List.cons_append, List.nil_append] <;> ac_rfl)); clear HO; have HO := Aside0.mk hO_; clear hO_))
      go_loopg [16] most (fun gk v16 w' => ∃ j : Nat, v16 = .int .i64 (j : Int) ∧ Aside0 (j + gk = most) ∧ Aside0 (Own w w' ((gh, .cells #[.int .i64 (size : Int), .map (some gm), .slice A n c, .pointer (some ⟨ga, 0, none⟩)] 147 (0, 0)) :: (gm, .map (ents M) clk) :: (R ++ ((ga, .cells #[.int .i64 ((1 : Nat) : Int), .slice (some ⟨gb, 0, none⟩) most most] 126 (0, 0)) :: (gb, .cells (u8s D.flatten) 5 (0, 0)) :: [])))))
      case atStart => exact ⟨0, rfl, ⟨Nat.zero_add _⟩, HO⟩
      case round =>
        clear HO
        obtain ⟨j, rfl, HJ, HO⟩ := hrel
        cases gk with
        | zero =>
          have f1 : decide ((j : Int) < (most : Int)) = false := decide_eq_false (by have := HJ.out; omega)
          have f1n : decide (j < most) = false := decide_eq_false (by have := HJ.out; omega)
          go_wp2_with (first | (go_at_call 44; (with_reducible refine (hlen_calls w _ [] R gh gm ga gb size 1 most most A n c clk M fl D HS.out most HML.out HO.out).mono ?_); rintro e wk ⟨rfl, hO_⟩; clear HO; have HO := Aside0.mk hO_; clear hO_; dsimp only))
          go_ret
          exact ⟨rfl, HO.out.bel⟩
        | succ m =>
          have hjn : j < most := by have := HJ.out; omega
          have f1 : decide ((j : Int) < (most : Int)) = true := decide_eq_true (by omega)
          have f1n : decide (j < most) = true := decide_eq_true hjn
          obtain ⟨hv, hhv⟩ : ∃ hv : Nat, hv = 100 + j := ⟨_, rfl⟩
          have HJN := Aside0.mk hjn
          have HCV : Aside0 ((u8s D.flatten)[j]? = some (.int .u8 (hv : Int))) := ⟨by have h1 := dk_at most j hjn (Nat.le_refl _); rw [← HDK.out] at h1; have h2 := flat1_at D j _ HS.out.dz h1; rw [← hhv] at h2; unfold u8s; rw [List.getElem?_toArray, List.getElem?_map, h2]; rfl⟩
          have X1 := w_of (x := 100 + (j : Int)) (y := (hv : Int)) (by omega) (by have := HSI.out; omega)
          have X2 := w_of (x := (j : Int) + 1) (y := ((j + 1 : Nat) : Int)) (by omega) (by have := HSI.out; omega)
          have X3 := w_of (x := (j : Int) + 100) (y := (hv : Int)) (by omega) (by have := HSI.out; omega)
          have Y2 : Aside0 (IntKind.u8.wrap (hv : Int) = (hv : Int)) := ⟨IntWalk.u8_in _ (by have := HSI.out; omega)⟩
          have x1 := X1.out.1; have x1b := X1.out.2; have x2 := X2.out.1; have x2b := X2.out.2; have x3 := X3.out.1; have x3b := X3.out.2; have y2 := Y2.out
          clear hjn hhv
          go_wp2_with (first | ((with_reducible refine gate_callee (f := 43) rfl ?_); (with_reducible refine gate_dst (N := 90) rfl ?_); refine goesL_ (some 90) rfl rfl Try.func43 (by kernel_rfl) rfl #[.pointer (some ⟨gh, 0, none⟩), .int .i64 (j : Int)] rfl (by (try simp only [List.map_toArray, List.map_cons, List.map_nil]); first | done | rfl) ?_; (with_reducible refine (hslot_ok w _ [] R gh gm ga gb size 1 most most A n c clk M fl D HS.out j j HJN.out (Nat.mul_one j).symm HO.out).mono ?_); rintro e wx ⟨rfl, hO_⟩; refine ⟨_, rfl, ?_⟩; clear HO; have HO := Aside0.mk hO_; clear hO_; have hkc : World.cell? _ ⟨gb, j, none⟩ = some (.int .u8 (hv : Int)) := (HO.out.cell (.tail (.tail (Ext.app (.tail .head) R))) j).trans HCV.out))
          go_roundg m
          case measure => clear x1 x1b x2 x2b x3 x3b y2; omega
          case rel => exact ⟨j + 1, rfl, ⟨by clear x1 x1b x2 x2b x3 x3b y2; have := HJ.out; omega⟩, HO⟩
def halberdlaw11_HashFills.f (a0 : Int) (a1 : Int) : Option Bool := if 0 ≤ a0 ∧ a0 < 256 ∧ 0 ≤ a1 ∧ a1 < 256 then some true else none
set_option maxHeartbeats 8000000 in
set_option maxRecDepth 100000 in
theorem halberdlaw11_HashFills.calls (a0 : Int) (a1 : Int) (r : Bool) (w : World) (hr_ : Aside0 (r = true)) (h : halberdlaw11_HashFills.f a0 a1 = some r) :
    Calls Try.prog 8 #[.int .u8 a0, .int .u8 a1] w fun e w' => e = .returned (.bool r) ∧ Below w.heap.size w w' := by
  obtain rfl := hr_.out
  unfold halberdlaw11_HashFills.f at h
  split at h
  · rename_i hc
    have e1 : a0.tmod 8 = a0 % 8 := Int.tmod_eq_emod_of_nonneg hc.1
    have e2 : a1.tmod 16 = a1 % 16 := Int.tmod_eq_emod_of_nonneg hc.2.2.1
    obtain ⟨m1, h1⟩ : ∃ m : Nat, a0 % 8 = (m : Int) := ⟨(a0 % 8).toNat, by omega⟩
    obtain ⟨m2, h2⟩ : ∃ m : Nat, a1 % 16 = (m : Int) := ⟨(a1 % 16).toNat, by omega⟩
    exact hash_fills_ok w a0 a1 m1 m2 (m1 + 1) (m2 + 1) (e1.trans h1) rfl (by omega) (e2.trans h2) rfl (by omega)
  · cases h

/-- THE ONE PURE STATEMENT of halberdlaw11_HashFills. -/
def halberdlaw11_HashFills.Pure : Prop := ∀ (a0 : Int) (a1 : Int), ((Lit.int .u8 a0).wf = true) → ((Lit.int .u8 a1).wf = true) → halberdlaw11_HashFills.f a0 a1 = some true

end Go.Proofs.Ytgkdbhkbkpfbpaa.PHashFills
