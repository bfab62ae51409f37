/- Functions of the program that some laws reach, as Lean functions, and proofs that the program's calls come to what they say: written by a program, for the texts that import it; each theorem bears its own conditions. -/
import Derived.Test.YtgkdbhkbkpfbpaaPRingFillsx0
namespace Go.Proofs.Ytgkdbhkbkpfbpaa.PRingFills
open Go.RowKit Go.Proofs.YtgkdbhkbkpfbpaaW.PrintWords Go.Proofs.YtgkdbhkbkpfbpaaW.PrintLast Go.Proofs.YtgkdbhkbkpfbpaaW.PrintMore
attribute [local go_sem] max2_int min2_int max_two min_two max_three min_three max_four min_four   -- for this text's walks alone
set_option linter.unusedVariables false
set_option linter.unusedSimpArgs false

/-! ### halberdlaw13_RingFills: function 4 -/
open Go.Proofs.Hp Go.Proofs.Ev Go.Proofs.Ar Go.Proofs.Rg
attribute [local go_sem] eql_slice_nil
/-- Records of one size; the first j are thrown away. -/
def recs (N f j : Nat) : List Rc := (List.range f).map fun (q : Nat) => ⟨(q : Int), 1, if q < j then 2 else 0, List.replicate N 0⟩
theorem recs_len (N f j : Nat) : (recs N f j).length = f := by simp [recs]
theorem recs_succ (N f : Nat) : recs N (f + 1) 0 = recs N f 0 ++ [⟨(f : Int), 1, 0, List.replicate N 0⟩] := by
  simp [recs, List.range_succ]
theorem recs_at (N f j q : Nat) (h : q < f) : (recs N f j)[q]? = some ⟨(q : Int), 1, if q < j then 2 else 0, List.replicate N 0⟩ := by
  simp [recs, h]
theorem used_const (N : Nat) : ∀ R : List Rc, (∀ r ∈ R, r.b.length = N) → used R = R.length * (N + 8)
  | [], _ => by simp [used]
  | r :: R, h => by
    have ih := used_const N R fun x hx => h x (List.mem_cons_of_mem _ hx)
    have h1 := h r (List.mem_cons_self ..)
    simp only [used, List.length_cons, ih, h1, Nat.add_mul, Nat.one_mul]
    omega
theorem recs_used (N f j : Nat) : used (recs N f j) = f * (N + 8) := by
  rw [used_const N _ (fun r hr => ?_), recs_len]
  simp only [recs, List.mem_map] at hr
  obtain ⟨q, _, rfl⟩ := hr
  simp
theorem recs_set (N f j : Nat) (h : j < f) : (recs N f j).set j { (⟨(j : Int), 1, if j < j then 2 else 0, List.replicate N 0⟩ : Rc) with st := 2 } = recs N f (j + 1) := by
  apply List.ext_getElem?
  intro q
  rw [List.getElem?_set]
  by_cases e : j = q
  · subst e
    rw [if_pos rfl, recs_len, if_pos h, recs_at _ _ _ _ h, if_pos (Nat.lt_succ_self _)]
  · rw [if_neg e]
    by_cases hq : q < f
    · rw [recs_at _ _ _ _ hq, recs_at _ _ _ _ hq]
      by_cases h1 : q < j
      · rw [if_pos h1, if_pos (by omega)]
      · rw [if_neg h1, if_neg (by omega)]
    · rw [List.getElem?_eq_none (by rw [recs_len]; omega), List.getElem?_eq_none (by rw [recs_len]; omega)]
theorem rfind_of (x : Int) : ∀ (R : List Rc) (i k : Nat) (r : Rc), R[k]? = some r → r.id = x → r.st = 0 → (∀ q s, q < k → R[q]? = some s → s.id ≠ x) → rfind x R i = ((i + k : Nat) : Int)
  | [], _, _, _, h, _, _, _ => by simp at h
  | s :: R, i, 0, r, h, h1, h2, _ => by
    simp only [List.getElem?_cons_zero, Option.some.injEq] at h
    subst h
    unfold rfind
    rw [if_pos ⟨h1, h2⟩]
    rfl
  | s :: R, i, k + 1, r, h, h1, h2, h3 => by
    unfold rfind
    rw [if_neg (fun hc => h3 0 s (Nat.succ_pos _) rfl hc.1), rfind_of x R (i + 1) k r (by simpa using h) h1 h2 (fun q t hq ht => h3 (q + 1) t (by omega) (by simpa using ht))]
    congr 1
    omega
theorem recs_find (N f j : Nat) (h : j < f) : rfind (j : Int) (recs N f j) 0 = (j : Int) := by
  have := rfind_of (j : Int) (recs N f j) 0 j _ (recs_at N f j j h) rfl (by rw [if_neg (Nat.lt_irrefl _)]) (fun q s hq hs => by
    rw [recs_at N f j q (by omega)] at hs
    simp only [Option.some.injEq] at hs
    subst hs
    simp only
    omega)
  rw [Nat.zero_add] at this
  exact this
theorem gone_all : ∀ R : List Rc, (∀ r ∈ R, r.st = 2) → gone R = R.length ∧ ntold R = 0
  | [], _ => ⟨rfl, rfl⟩
  | r :: R, h => by
    have ih := gone_all R fun x hx => h x (List.mem_cons_of_mem _ hx)
    have h1 := h r (List.mem_cons_self ..)
    unfold gone ntold
    rw [h1, if_neg (by decide), if_neg (by decide), ih.1, ih.2]
    exact ⟨rfl, rfl⟩
theorem recs_gone (N f : Nat) : gone (recs N f f) = f ∧ ntold ((recs N f f).take f) = 0 ∧ (recs N f f).drop f = [] := by
  have h : ∀ r ∈ recs N f f, r.st = 2 := fun r hr => by
    simp only [recs, List.mem_map, List.mem_range] at hr
    obtain ⟨q, hq, rfl⟩ := hr
    simp [hq]
  refine ⟨by rw [(gone_all _ h).1, recs_len], ?_, List.drop_eq_nil_of_le (by rw [recs_len]; exact Nat.le_refl _)⟩
  rw [List.take_of_length_le (by rw [recs_len]; exact Nat.le_refl _)]
  exact (gone_all _ h).2
set_option maxHeartbeats 8000000 in
set_option maxRecDepth 100000 in
theorem rfills_ok (w : World) (a0 a1 a2 : Int) (M m N f q : Nat) (hM : a0 + 1 = (M : Int)) (hMB : 1 ≤ M ∧ M ≤ 256) (hm : a1.tmod 32 = (m : Int)) (hmN : m + 1 = N) (hNB : N ≤ 32) (hf : Int.tdiv (M : Int) ((N + 8 : Nat) : Int) = (f : Int)) (hf1 : f * (N + 8) ≤ M) (hf2 : M < f * (N + 8) + (N + 8)) (hq : a2.tmod 9 = (q : Int)) (hqB : q ≤ 8) :
    Calls Try.prog 4 #[.int .u8 a0, .int .u8 a1, .int .u8 a2] w fun e w' => e = .returned (.bool true) ∧ Below w.heap.size w w' := by
  have hui := Try.underlying3
  have hul := Try.underlying32
  have hu8 := Try.underlying5
  have hur := Try.underlying135
  have hurs := Try.underlying131
  have hf28 : f ≤ 28 := by
    rcases Nat.lt_or_ge 28 f with h | h
    · have h1 : 29 * 9 ≤ f * (N + 8) := Nat.mul_le_mul h (by omega)
      omega
    · exact h
  have HM : Aside0 (1 ≤ (M : Int) ∧ (M : Int) ≤ 256) := ⟨by omega⟩
  have HN : Aside0 (1 ≤ N ∧ N ≤ 32) := ⟨by omega⟩
  have HF28 := Aside0.mk hf28
  have HF1 := Aside0.mk hf1
  have HFULL : Aside0 (¬ (((f * (N + 8) : Nat) : Int) + (N : Int) + 8 ≤ (M : Int))) := ⟨by omega⟩
  have HQ := Aside0.mk hqB
  have HQ1 : Aside0 ((((q + 1 : Nat) : Int) = (q : Int) + 1) ∧ (0 ≤ (q : Int) ∧ (q : Int) ≤ 100000)) := ⟨by simp, by omega, by omega⟩
  obtain ⟨n8, hn8⟩ : ∃ n8 : Nat, n8 = N + 8 := ⟨_, rfl⟩
  have z1 : ((n8 : Int) = 0) = False := eq_false (by omega)
  have z2 : ((n8 : Int) == 0) = false := beq_eq_false_iff_ne.mpr (by omega)
  have z3 : (n8 = 0) = False := eq_false (by omega)
  rw [← hn8] at hf
  have W1 := w_of (x := a0 + 1) (y := (M : Int)) hM (by omega)
  have W2 := w_of (x := a0) (y := a0) rfl (by omega)
  have W3 := w_of (x := (m : Int)) (y := (m : Int)) rfl (by omega)
  have W4 := w_of (x := (m : Int) + 1) (y := (N : Int)) (by omega) (by omega)
  have W5 := w_of (x := (N : Int) + 8) (y := (n8 : Int)) (by omega) (by omega)
  have W6 := w_of (x := (f : Int)) (y := (f : Int)) rfl (by omega)
  have W7 := w_of (x := (q : Int)) (y := (q : Int)) rfl (by omega)
  have HV1 : Aside0 (IntKind.u8.wrap (m : Int) = (m : Int)) := ⟨IntWalk.u8_in _ (by omega)⟩
  have HV2 : Aside0 (IntKind.u8.wrap (q : Int) = (q : Int)) := ⟨IntWalk.u8_in _ (by omega)⟩
  have HO := Aside0.mk (Own.refl w)
  clear hM hMB hmN hNB hf1 hf2 hqB hf28 hn8
  have u1 := W1.out.1; have u1b := W1.out.2; have u2 := W2.out.1; have u2b := W2.out.2; have u3 := W3.out.1; have u3b := W3.out.2; have u4 := W4.out.1; have u4b := W4.out.2; have u5 := W5.out.1; have u5b := W5.out.2; have u6 := W6.out.1; have u6b := W6.out.2; have u7 := W7.out.1; have u7b := W7.out.2
  have v1 := HV1.out
  have v2 := HV2.out
  go_enter Try.func4, Try.ntmps4
  go_wp2_with (first | ((with_reducible refine gate_callee (f := 24) rfl ?_); (with_reducible refine gate_dst (N := 24) rfl ?_); refine goesL_ (some 24) rfl rfl Try.func24 (by kernel_rfl) rfl #[] rfl (by (try simp only [List.map_toArray, List.map_cons, List.map_nil]); first | done | rfl) ?_; (with_reducible refine (ring_alive _).mono ?_); rintro e wx ⟨rfl, hb⟩; refine ⟨_, rfl, ?_⟩; have hO_ := HO.out.below hb; clear hb; clear HO; have HO := Aside0.mk hO_; clear hO_) | ((with_reducible refine gate_callee (f := 25) rfl ?_); (with_reducible refine gate_dst (N := 35) rfl ?_); refine goesL_ (some 35) rfl rfl Try.func25 (by kernel_rfl) rfl #[.int .i64 (M : Int)] rfl (by (try simp only [List.map_toArray, List.map_cons, List.map_nil]); first | done | rfl) ?_; (with_reducible refine (rnew_ok w _ [] (M : Int) HM.out HO.out).mono ?_); rintro e wx ⟨gr, rfl, hO_⟩; refine ⟨_, rfl, ?_⟩; clear HO; have HO := Aside0.mk hO_; clear hO_))
  clear u1 u1b u2 u2b u3 u3b u4 u4b u5 u5b u6 u6b u7 u7b v1 v2 hm hf
  go_loopg [12] f (fun gk v12 w' => ∃ i : Nat, v12 = .int .i64 (i : Int) ∧ Aside0 (i + gk = f) ∧ ∃ X A n c R, Aside0 (R = recs N i 0) ∧ Aside0 (RSt X A n c R) ∧ Aside0 (Own w w' ((gr, .cells #[.int .i64 (M : Int), .int .i64 0, .int .i64 (i : Int), .slice A n c] 133 (0, 0)) :: (X ++ []))))
  case atStart => exact ⟨0, rfl, ⟨Nat.zero_add _⟩, [], none, 0, 0, [], ⟨rfl⟩, ⟨RSt.nil⟩, HO⟩
  case round =>
    clear HO
    obtain ⟨i, rfl, HI, X, A, n, c, R, HR, HS, HO⟩ := hrel
    cases gk with
    | succ k2 =>
      have hin : i < f := by have := HI.out; omega
      have HI2 : Aside0 (i < f ∧ f ≤ 28) := ⟨hin, HF28.out⟩
      have HFIT : Aside0 (used R + N + 8 ≤ (M : Int)) := ⟨by
        have h1 : (i + 1) * (N + 8) ≤ f * (N + 8) := Nat.mul_le_mul_right _ hin
        rw [Nat.add_mul, Nat.one_mul] at h1
        have h2 : used R = i * (N + 8) := by rw [HR.out, recs_used]
        have h3 := HF1.out
        omega⟩
      have c1 : decide ((i : Int) < (f : Int)) = true := decide_eq_true (by omega)
      have c1n : decide (i < f) = true := decide_eq_true hin
      have Wi := w_of (x := (i : Int) + 1) (y := ((i + 1 : Nat) : Int)) (by omega) (by have := HF28.out; omega)
      clear hin
      have x1 := Wi.out.1; have x1b := Wi.out.2
      go_wp2_with (first | ((with_reducible refine gate_callee (f := 26) rfl ?_); (with_reducible refine gate_dst (N := 56) rfl ?_); refine goesL_ (some 56) rfl rfl Try.func26 (by kernel_rfl) rfl #[.pointer (some ⟨gr, 0, none⟩), .int .i64 1, .int .i64 (N : Int)] rfl (by (try simp only [List.map_toArray, List.map_cons, List.map_nil]); first | done | rfl) ?_; (with_reducible refine (reserve_ok2 w _ [] X gr (M : Int) 0 (i : Int) A n c R HS.out 1 N HN.out (N : Int) rfl ((i + 1 : Nat) : Int) (by simp) (by have := HI2.out; omega) HFIT.out (by have := HM.out; omega) HO.out).mono ?_); rintro e wx ⟨rfl, X2, A2, n2, c2, R2, hn2, hR2, hS2, hO_⟩; refine ⟨_, rfl, ?_⟩; have HR2 := Aside0.mk hR2; have HS2 := Aside0.mk hS2; have HN2 := Aside0.mk hn2; clear hn2 hR2 hS2; clear HO; have HO := Aside0.mk hO_; clear hO_))
      go_roundg k2
      case measure => clear x1 x1b; omega
      case rel =>
        clear x1 x1b
        exact ⟨i + 1, rfl, ⟨by have := HI.out; omega⟩, X2, A2, n2, c2, R2, ⟨by rw [HR2.out, HR.out, recs_succ]⟩, HS2, HO⟩
    | zero =>
      obtain rfl : i = f := by have := HI.out; omega
      have c1 : decide ((i : Int) < (i : Int)) = false := decide_eq_false (Int.lt_irrefl _)
      have c1n : decide (i < i) = false := decide_eq_false (Nat.lt_irrefl _)
      go_wp2
      have HOL : Aside0 (Own w _ (((gr, .cells #[.int .i64 (M : Int), .int .i64 ((0 : Nat) : Int), .int .i64 (i : Int), .slice A n c] 133 (0, 0)) :: (X ++ [])))) := HO
      clear HO c1 c1n
      have x7 := W7.out.1; have x7b := W7.out.2
      have v2 := HV2.out
      go_loopg [15] q (fun gk v15 w' => ∃ j : Nat, v15 = .int .i64 (j : Int) ∧ Aside0 (j + gk = q) ∧ ∃ L, Aside0 (Own w w' ((gr, .cells #[.int .i64 (M : Int), .int .i64 (j : Int), .int .i64 (i : Int), .slice A n c] 133 (0, 0)) :: (X ++ L))))
      case atStart => exact ⟨0, rfl, ⟨Nat.zero_add _⟩, [], HOL⟩
      case round =>
        clear HOL
        obtain ⟨j, rfl, HJI, L, HO⟩ := hrel
        cases gk with
        | succ k2 =>
          have hjq : j < q := by clear x7 x7b v2 hq; have := HJI.out; omega
          have HJ : Aside0 (0 ≤ (j : Int) ∧ (j : Int) ≤ 100000) := ⟨by clear x7 x7b v2 hq; have := HQ.out; omega⟩
          have c1 : decide ((j : Int) < (q : Int)) = true := decide_eq_true (by clear x7 x7b v2 hq; omega)
          have c1n : decide (j < q) = true := decide_eq_true hjq
          have Wi := w_of (x := (j : Int) + 1) (y := ((j + 1 : Nat) : Int)) (by clear x7 x7b v2 hq; omega) (by clear x7 x7b v2 hq; have := HQ.out; omega)
          clear hjq
          have x1 := Wi.out.1; have x1b := Wi.out.2
          go_wp2_with (first | ((with_reducible refine gate_callee (f := 26) rfl ?_); (with_reducible refine gate_dst (N := 76) rfl ?_); refine goesL_ (some 76) rfl rfl Try.func26 (by kernel_rfl) rfl #[.pointer (some ⟨gr, 0, none⟩), .int .i64 1, .int .i64 (N : Int)] rfl (by (try simp only [List.map_toArray, List.map_cons, List.map_nil]); first | done | rfl) ?_; (with_reducible refine (reserve_full2 w _ L X gr (M : Int) (j : Int) (i : Int) A n c R HS.out 1 N HN.out (N : Int) rfl ((j + 1 : Nat) : Int) (by simp) (by have := HJ.out; omega) (by rw [HR.out, recs_used]; first | exact HFULL.out | exact Int.not_le.mpr HFULL.out) HO.out).mono ?_); rintro e wx ⟨rfl, hO_⟩; refine ⟨_, rfl, ?_⟩; clear HO; have HO := Aside0.mk hO_; clear hO_) | (go_at_call 27; refine (drops_calls w _ L X gr (M : Int) ((j + 1 : Nat) : Int) (i : Int) A n c R HS.out HO.out).mono ?_; rintro e wk ⟨rfl, hO_⟩; clear HO; have HO := Aside0.mk hO_; clear hO_; dsimp only))
          go_roundg k2
          case measure => clear x1 x1b x7 x7b v2 hq; omega
          case rel =>
            clear x1 x1b x7 x7b v2 hq
            exact ⟨j + 1, rfl, ⟨by have := HJI.out; omega⟩, L, HO⟩
        | zero =>
          obtain rfl : j = q := by clear x7 x7b v2 hq; have := HJI.out; omega
          have c1 : decide ((j : Int) < (j : Int)) = false := decide_eq_false (Int.lt_irrefl _)
          have c1n : decide (j < j) = false := decide_eq_false (Nat.lt_irrefl _)
          go_wp2
          clear x7 x7b v2 hq c1 c1n
          have HOL := HO
          clear HO
          go_loopg [18] i (fun gk v18 w' => ∃ p : Nat, v18 = .int .i64 (p : Int) ∧ Aside0 (p + gk = i) ∧ ∃ L X R, Aside0 (R = recs N i p) ∧ Aside0 (RSt X A n c R) ∧ Aside0 (Own w w' ((gr, .cells #[.int .i64 (M : Int), .int .i64 (j : Int), .int .i64 (i : Int), .slice A n c] 133 (0, 0)) :: (X ++ L))))
          case atStart => exact ⟨0, rfl, ⟨Nat.zero_add _⟩, L, X, R, HR, HS, HOL⟩
          case round =>
            clear HOL HS HR
            obtain ⟨p, rfl, HPI, L, X, R, HR, HS, HO⟩ := hrel
            cases gk with
            | succ k2 =>
              have hpi : p < i := by have := HPI.out; omega
              have c1 : decide ((p : Int) < (i : Int)) = true := decide_eq_true (by omega)
              have c1n : decide (p < i) = true := decide_eq_true hpi
              have Wi := w_of (x := (p : Int) + 1) (y := ((p + 1 : Nat) : Int)) (by omega) (by have := HF28.out; omega)
              have HFI : Aside0 (rfind (p : Int) R 0 = (p : Int)) := ⟨by rw [HR.out]; exact recs_find N i p hpi⟩
              obtain ⟨gs, gb, cb, cr, cur, hP⟩ := HS.out.open (i := p) (r := ⟨(p : Int), 1, if p < p then 2 else 0, List.replicate N 0⟩) (by rw [HR.out]; exact recs_at N i p p hpi) (by rw [List.length_replicate]; exact HN.out.1)
              have HP := Aside0.mk hP
              have HPS : Aside0 (R.set p { (⟨(p : Int), 1, if p < p then 2 else 0, List.replicate N 0⟩ : Rc) with st := 2 } = recs N i (p + 1)) := ⟨by rw [HR.out]; exact recs_set N i p hpi⟩
              clear hpi hP
              have x1 := Wi.out.1; have x1b := Wi.out.2
              go_wp2_with (first | ((with_reducible refine gate_callee (f := 28) rfl ?_); (with_reducible refine gate_dst (N := 94) rfl ?_); refine goesL_ (some 94) rfl rfl Try.func28 (by kernel_rfl) rfl #[.pointer (some ⟨gr, 0, none⟩), .int .i64 (p : Int)] rfl (by (try simp only [List.map_toArray, List.map_cons, List.map_nil]); first | done | rfl) ?_; (with_reducible refine (discard_has2 w _ L X gr (M : Int) (j : Int) (i : Int) A n c R p ⟨(p : Int), 1, if p < p then 2 else 0, List.replicate N 0⟩ gs gb cb cr cur HP.out (p : Int) HFI.out HO.out).mono ?_); rintro e wx ⟨rfl, X2, R2, L2, hR2, hS2, hO_⟩; refine ⟨_, rfl, ?_⟩; have HR2 := Aside0.mk hR2; have HS2 := Aside0.mk hS2; clear hR2 hS2; clear HO; have HO := Aside0.mk hO_; clear hO_))
              go_roundg k2
              case measure => clear x1 x1b; omega
              case rel =>
                clear x1 x1b
                exact ⟨p + 1, rfl, ⟨by have := HPI.out; omega⟩, L2, X2, R2, ⟨by rw [HR2.out]; exact HPS.out⟩, HS2, HO⟩
            | zero =>
              obtain rfl : p = i := by have := HPI.out; omega
              have c1 : decide ((p : Int) < (p : Int)) = false := decide_eq_false (Int.lt_irrefl _)
              have c1n : decide (p < p) = false := decide_eq_false (Nat.lt_irrefl _)
              by_cases hp : 0 < p
              · have HONE : Aside0 (N + 8 ≤ M) := ⟨by
                  have h1 : 1 * (N + 8) ≤ p * (N + 8) := Nat.mul_le_mul_right _ hp
                  have := HF1.out
                  omega⟩
                have d1 : decide (0 < (p : Int)) = true := decide_eq_true (by omega)
                have d2 : decide (0 < p) = true := decide_eq_true hp
                clear hp
                go_wp2_with (first | ((with_reducible refine gate_callee (f := 26) rfl ?_); (with_reducible refine gate_dst (N := 99) rfl ?_); refine goesL_ (some 99) rfl rfl Try.func26 (by kernel_rfl) rfl #[.pointer (some ⟨gr, 0, none⟩), .int .i64 1, .int .i64 (N : Int)] rfl (by (try simp only [List.map_toArray, List.map_cons, List.map_nil]); first | done | rfl) ?_; (with_reducible refine (reserve_full2 w _ L X gr (M : Int) (j : Int) (p : Int) A n c R HS.out 1 N HN.out (N : Int) rfl ((j + 1 : Nat) : Int) HQ1.out.1 HQ1.out.2 (by rw [HR.out, recs_used]; first | exact HFULL.out | exact Int.not_le.mpr HFULL.out) HO.out).mono ?_); rintro e wx ⟨rfl, hO_⟩; refine ⟨_, rfl, ?_⟩; clear HO; have HO := Aside0.mk hO_; clear hO_) | ((with_reducible refine gate_callee (f := 29) rfl ?_); (with_reducible refine gate_dst (N := 104) rfl ?_); refine goesL_ (some 104) rfl rfl Try.func29 (by kernel_rfl) rfl #[.pointer (some ⟨gr, 0, none⟩)] rfl (by (try simp only [List.map_toArray, List.map_cons, List.map_nil]); first | done | rfl) ?_; (with_reducible refine (drain_calls2 w _ L X gr (M : Int) ((j + 1 : Nat) : Int) (p : Int) A n c R HS.out p (by rw [HR.out]; exact (recs_gone N p).1) HO.out).mono ?_); rintro e wx ⟨Av, k4, cv, rfl, AR, X4, A4, n4, c4, R4, T1, V1, hA4, hk4, hB4, hR4, hS4, hO_⟩; refine ⟨_, rfl, ?_⟩; (obtain rfl : (0 : Nat) = k4 := by (rw [hk4, HR.out]; exact (recs_gone N p).2.1.symm)); (have HR4 : Aside0 (R4 = []) := ⟨by rw [hR4, HR.out]; exact (recs_gone N p).2.2⟩); have HS4 := Aside0.mk hS4; clear hA4 hk4 hB4 hR4 hS4; clear HO; have HO := Aside0.mk hO_; clear hO_) | ((with_reducible refine gate_callee (f := 26) rfl ?_); (with_reducible refine gate_dst (N := 108) rfl ?_); refine goesL_ (some 108) rfl rfl Try.func26 (by kernel_rfl) rfl #[.pointer (some ⟨gr, 0, none⟩), .int .i64 1, .int .i64 (N : Int)] rfl (by (try simp only [List.map_toArray, List.map_cons, List.map_nil]); first | done | rfl) ?_; (with_reducible refine (reserve_ok2 w _ _ X4 gr (M : Int) ((j + 1 : Nat) : Int) (p : Int) A4 n4 c4 R4 HS4.out 1 N HN.out (N : Int) rfl ((p + 1 : Nat) : Int) (by simp) (by have := HF28.out; omega) (by rw [HR4.out]; simp only [used]; have := HONE.out; omega) (by have := HM.out; omega) HO.out).mono ?_); rintro e wx ⟨rfl, X5, A5, n5, c5, R5, hn5, hR5, hS5, hO_⟩; refine ⟨_, rfl, ?_⟩; clear hn5 hR5 hS5; clear HO; have HO := Aside0.mk hO_; clear hO_))
                go_ret
                exact ⟨by simp, HO.out.bel⟩
              · obtain rfl : p = 0 := by omega
                have HONE : Aside0 (¬ (N + 8 ≤ M)) := ⟨by have := HFULL.out; rw [Nat.zero_mul] at this; omega⟩
                have d1 : decide (0 < ((0 : Nat) : Int)) = false := rfl
                clear hp
                go_wp2_with (first | ((with_reducible refine gate_callee (f := 26) rfl ?_); (with_reducible refine gate_dst (N := 99) rfl ?_); refine goesL_ (some 99) rfl rfl Try.func26 (by kernel_rfl) rfl #[.pointer (some ⟨gr, 0, none⟩), .int .i64 1, .int .i64 (N : Int)] rfl (by (try simp only [List.map_toArray, List.map_cons, List.map_nil]); first | done | rfl) ?_; (with_reducible refine (reserve_full2 w _ L X gr (M : Int) (j : Int) ((0 : Nat) : Int) A n c R HS.out 1 N HN.out (N : Int) rfl ((j + 1 : Nat) : Int) HQ1.out.1 HQ1.out.2 (by rw [HR.out, recs_used]; first | exact HFULL.out | exact Int.not_le.mpr HFULL.out) HO.out).mono ?_); rintro e wx ⟨rfl, hO_⟩; refine ⟨_, rfl, ?_⟩; clear HO; have HO := Aside0.mk hO_; clear hO_) | ((with_reducible refine gate_callee (f := 29) rfl ?_); (with_reducible refine gate_dst (N := 104) rfl ?_); refine goesL_ (some 104) rfl rfl Try.func29 (by kernel_rfl) rfl #[.pointer (some ⟨gr, 0, none⟩)] rfl (by (try simp only [List.map_toArray, List.map_cons, List.map_nil]); first | done | rfl) ?_; (with_reducible refine (drain_calls2 w _ L X gr (M : Int) ((j + 1 : Nat) : Int) ((0 : Nat) : Int) A n c R HS.out 0 (by rw [HR.out]; exact (recs_gone N 0).1) HO.out).mono ?_); rintro e wx ⟨Av, k4, cv, rfl, AR, X4, A4, n4, c4, R4, T1, V1, hA4, hk4, hB4, hR4, hS4, hO_⟩; refine ⟨_, rfl, ?_⟩; (obtain rfl : (0 : Nat) = k4 := by (rw [hk4, HR.out]; exact (recs_gone N 0).2.1.symm)); (have HR4 : Aside0 (R4 = []) := ⟨by rw [hR4, HR.out]; exact (recs_gone N 0).2.2⟩); have HS4 := Aside0.mk hS4; clear hA4 hk4 hB4 hR4 hS4; clear HO; have HO := Aside0.mk hO_; clear hO_) | ((with_reducible refine gate_callee (f := 26) rfl ?_); (with_reducible refine gate_dst (N := 108) rfl ?_); refine goesL_ (some 108) rfl rfl Try.func26 (by kernel_rfl) rfl #[.pointer (some ⟨gr, 0, none⟩), .int .i64 1, .int .i64 (N : Int)] rfl (by (try simp only [List.map_toArray, List.map_cons, List.map_nil]); first | done | rfl) ?_; (with_reducible refine (reserve_full2 w _ _ X4 gr (M : Int) ((j + 1 : Nat) : Int) ((0 : Nat) : Int) A4 n4 c4 R4 HS4.out 1 N HN.out (N : Int) rfl ((j + 1 + 1 : Nat) : Int) (by simp) (by have := HQ1.out; have := HQ.out; omega) (by rw [HR4.out]; simp only [used]; have := HONE.out; omega) HO.out).mono ?_); rintro e wx ⟨rfl, hO_⟩; refine ⟨_, rfl, ?_⟩; clear HO; have HO := Aside0.mk hO_; clear hO_))
                go_ret
                exact ⟨by simp, HO.out.bel⟩
def halberdlaw13_RingFills.f (a0 : Int) (a1 : Int) (a2 : Int) : Option Bool := if 0 ≤ a0 ∧ a0 < 256 ∧ 0 ≤ a1 ∧ a1 < 256 ∧ 0 ≤ a2 ∧ a2 < 256 then some true else none
set_option maxHeartbeats 8000000 in
set_option maxRecDepth 100000 in
theorem halberdlaw13_RingFills.calls (a0 : Int) (a1 : Int) (a2 : Int) (r : Bool) (w : World) (hr_ : Aside0 (r = true)) (h : halberdlaw13_RingFills.f a0 a1 a2 = some r) :
    Calls Try.prog 4 #[.int .u8 a0, .int .u8 a1, .int .u8 a2] w fun e w' => e = .returned (.bool r) ∧ Below w.heap.size w w' := by
  obtain rfl := hr_.out
  unfold halberdlaw13_RingFills.f at h
  split at h
  · rename_i hc
    have e1 : a1.tmod 32 = a1 % 32 := Int.tmod_eq_emod_of_nonneg hc.2.2.1
    have e2 : a2.tmod 9 = a2 % 9 := Int.tmod_eq_emod_of_nonneg hc.2.2.2.2.1
    obtain ⟨m, hm⟩ : ∃ m : Nat, a1 % 32 = (m : Int) := ⟨(a1 % 32).toNat, by omega⟩
    obtain ⟨q, hq⟩ : ∃ q : Nat, a2 % 9 = (q : Int) := ⟨(a2 % 9).toNat, by omega⟩
    obtain ⟨M, hM⟩ : ∃ M : Nat, a0 + 1 = (M : Int) := ⟨(a0 + 1).toNat, by omega⟩
    have hd1 := Nat.div_mul_le_self M (m + 1 + 8)
    have hd2 := Nat.lt_div_mul_add (a := M) (b := m + 1 + 8) (by omega)
    exact rfills_ok w a0 a1 a2 M m (m + 1) (M / (m + 1 + 8)) q hM (by omega) (e1.trans hm) rfl (by omega) (by rw [← Int.ofNat_tdiv]) hd1 hd2 (e2.trans hq) (by omega)
  · cases h

/-- THE ONE PURE STATEMENT of halberdlaw13_RingFills. -/
def halberdlaw13_RingFills.Pure : Prop := ∀ (a0 : Int) (a1 : Int) (a2 : Int), ((Lit.int .u8 a0).wf = true) → ((Lit.int .u8 a1).wf = true) → ((Lit.int .u8 a2).wf = true) → halberdlaw13_RingFills.f a0 a1 a2 = some true

end Go.Proofs.Ytgkdbhkbkpfbpaa.PRingFills
