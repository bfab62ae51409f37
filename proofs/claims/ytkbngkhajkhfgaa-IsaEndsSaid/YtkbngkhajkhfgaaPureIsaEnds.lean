/- Whichever ways are gone in a code that is well formed, an Exit is come to in as many steps as it has instructions, at most; for every code and all picks. -/
import Derived.Test.YtkbngkhajkhfgaaPIsaEndsx6
import Derived.Test.YtkbngkhajkhfgaaHB
set_option linter.unusedVariables false
set_option linter.unusedSimpArgs false
namespace Go.Proofs.Ytkbngkhajkhfgaa.Pure
open Go.RowKit Go.Proofs.Ytkbngkhajkhfgaa.PIsaEnds Go.Proofs.YtkbngkhajkhfgaaW.PrintWords Go.Proofs.YtkbngkhajkhfgaaW.PrintLast Go.Proofs.YtkbngkhajkhfgaaW.PrintMore Go.Proofs.Ytkbngkhajkhfgaa.HB

theorem u8_of {a : Int} (h : (Lit.int .u8 a).wf = true) : 0 ≤ a ∧ a < 256 := by
  have := bounds_u8 h
  omega
/-- A register's number, as far as it is looked at. -/
def cl (d : Int) : Int := if d ≤ 0 then 0 else if d ≤ 1 then 1 else if d ≤ 9 then 9 else if d ≤ 10 then 10 else 11
def zr (x : Int) : Int := if x = 0 then 0 else 1
theorem cl_le9 (d : Int) : (cl d ≤ 9) = (d ≤ 9) := by unfold cl; apply propext; repeat' split <;> omega
theorem cl_gt9 (d : Int) : (cl d > 9) = (d > 9) := by unfold cl; apply propext; repeat' split <;> omega
theorem cl_le10 (d : Int) : (cl d ≤ 10) = (d ≤ 10) := by unfold cl; apply propext; repeat' split <;> omega
theorem cl_le1 (d : Int) : (cl d ≤ 1) = (d ≤ 1) := by unfold cl; apply propext; repeat' split <;> omega
theorem cl_0 {d : Int} (h : 0 ≤ d) : (cl d = 0) = (d = 0) := by unfold cl; apply propext; repeat' split <;> omega
theorem cl_b {d : Int} (h : 0 ≤ d) : (cl d == 0) = (d == 0) := by
  rw [Bool.eq_iff_iff, beq_iff_eq, beq_iff_eq, cl_0 h]
theorem zr_0 (x : Int) : (zr x = 0) = (x = 0) := by unfold zr; apply propext; split <;> omega
theorem zr_b (x : Int) : (zr x == 0) = (x == 0) := by
  rw [Bool.eq_iff_iff, beq_iff_eq, beq_iff_eq, zr_0]
theorem zr_n (x : Int) : (zr x != 0) = (x != 0) := by
  unfold bne
  rw [zr_b]
theorem cl_mem {d : Int} (h : 0 ≤ d) : ∃ j : Fin 5, cl d = [0, 1, 9, 10, 11].getD j.val (0 : Int) := by
  unfold cl
  repeat' split
  · exact ⟨0, rfl⟩
  · exact ⟨1, rfl⟩
  · exact ⟨2, rfl⟩
  · exact ⟨3, rfl⟩
  · exact ⟨4, rfl⟩
theorem zr_mem (x : Int) : ∃ j : Fin 2, zr x = [0, 1].getD j.val (0 : Int) := by
  unfold zr
  split
  · exact ⟨0, rfl⟩
  · exact ⟨1, rfl⟩
/-- What a number's register is held against. -/
def lim (m : Int) : Bool := m == 0 || (m == 1 || (m == 9 || m == 10))
theorem cl_lim {d m : Int} (hm : lim m = true) (h : 0 ≤ d) : (cl d ≤ m) = (d ≤ m) := by
  simp only [lim, Bool.or_eq_true, beq_iff_eq] at hm
  rcases hm with rfl | rfl | rfl | rfl
  · unfold cl; apply propext; repeat' split <;> omega
  · exact cl_le1 d
  · exact cl_le9 d
  · exact cl_le10 d
def shapeOk (r : Option (Int × Int × Bool × Bool × Bool)) : Bool := match r with
  | some t => lim t.1 && lim t.2.1
  | none => false
theorem shape_ok : ∀ op : Fin 256, shapeOk (isa_shapeOf.f 10 (op.val : Int)) = true := by decide +kernel
theorem right_cl (op dst src off imm : Int) (ho : 0 ≤ op ∧ op < 256) (h1 : 0 ≤ dst) (h2 : 0 ≤ src) : isa_Right.f 10 op (cl dst) (cl src) (zr off) (zr imm) = isa_Right.f 10 op dst src off imm := by
  obtain ⟨n, rfl⟩ : ∃ n : Nat, op = n := ⟨op.toNat, by omega⟩
  have hs := shape_ok ⟨n, by omega⟩
  simp only at hs
  unfold isa_Right.f
  cases hq : isa_shapeOf.f 10 (n : Int) with
  | none => rw [hq] at hs; exact absurd hs (by decide)
  | some t =>
    rw [hq] at hs
    simp only [shapeOk, Bool.and_eq_true] at hs
    simp only [Option.bind_some, cl_lim hs.1 h1, cl_lim hs.2 h2, zr_0, zr_b]
theorem right_some (op dst src off imm : Int) (ho : 0 ≤ op ∧ op < 256) : ∃ b, isa_Right.f 10 op dst src off imm = some b := by
  obtain ⟨n, rfl⟩ : ∃ n : Nat, op = n := ⟨op.toNat, by omega⟩
  have hs := shape_ok ⟨n, by omega⟩
  simp only at hs
  unfold isa_Right.f
  cases hq : isa_shapeOf.f 10 (n : Int) with
  | none => rw [hq] at hs; exact absurd hs (by decide)
  | some t =>
    rw [Option.bind_some]
    repeat' split
    all_goals exact ⟨_, rfl⟩
theorem isjump_ok : ∀ op : Fin 256, (isa_IsJump.f (op.val : Int) 0 0 0 0).isSome = true := by decide +kernel
theorem isjump_some (op a b c d : Int) (ho : 0 ≤ op ∧ op < 256) : ∃ x, isa_IsJump.f op a b c d = some x := by
  obtain ⟨n, rfl⟩ : ∃ n : Nat, op = n := ⟨op.toNat, by omega⟩
  exact Option.isSome_iff_exists.1 (isjump_ok ⟨n, by omega⟩)
/-! ### One instruction, and the places in a code -/
abbrev I := S24
def OkI (x : I) : Prop := ((Lit.int .u8 x.f0).wf = true) ∧ ((Lit.int .u8 x.f1).wf = true) ∧ ((Lit.int .u8 x.f2).wf = true) ∧ ((Lit.int .i16 x.f3).wf = true) ∧ ((Lit.int .i32 x.f4).wf = true)
theorem i16_of {a : Int} (h : (Lit.int .i16 a).wf = true) : -32768 ≤ a ∧ a < 32768 := by
  have := bounds_i16 h
  omega
theorem i32_of {a : Int} (h : (Lit.int .i32 a).wf = true) : -2147483648 ≤ a ∧ a < 2147483648 := by
  have := bounds_i32 h
  omega
def rt (x : I) : Bool := (isa_Right.f 10 x.f0 x.f1 x.f2 x.f3 x.f4).getD false
theorem rt_isa {x : I} (h : OkI x) (k : Nat) (hk : 10 ≤ k) : isa_Right.f k x.f0 x.f1 x.f2 x.f3 x.f4 = some (rt x) := by
  obtain ⟨m, rfl⟩ : ∃ m, k = m + 10 := ⟨k - 10, by omega⟩
  obtain ⟨b, hb⟩ := right_some x.f0 x.f1 x.f2 x.f3 x.f4 (u8_of h.1)
  refine (show isa_Right.f (m + 10) x.f0 x.f1 x.f2 x.f3 x.f4 = isa_Right.f 10 x.f0 x.f1 x.f2 x.f3 x.f4 from rfl).trans ?_
  unfold rt
  rw [hb]
  rfl
def jm (x : I) : Bool := (isa_IsJump.f x.f0 x.f1 x.f2 x.f3 x.f4).getD false
theorem jm_isa {x : I} (h : OkI x) : isa_IsJump.f x.f0 x.f1 x.f2 x.f3 x.f4 = some (jm x) := by
  obtain ⟨b, hb⟩ := isjump_some x.f0 x.f1 x.f2 x.f3 x.f4 (u8_of h.1)
  unfold jm
  rw [hb]
  rfl
def at_ (l : List I) (n : Nat) : I := rd_T24 l (n : Int)
theorem fold (l : List I) (n : Nat) : rd_T24 l (n : Int) = at_ l n := rfl
theorem at_ok {l : List I} (hl : ∀ x ∈ l, OkI x) {n : Nat} (hn : n < l.length) : OkI (at_ l n) := by
  have e : at_ l n = l[n] := by
    unfold at_ rd_T24
    simp [List.getD_eq_getElem?_getD, hn]
  rw [e]
  exact hl _ (List.getElem_mem hn)
def is2 (x : I) : Bool := x.f0 == 0 && (x.f1 == 0 && (x.f2 == 0 && (x.f3 == 0)))
/-- Does a second one stand at a place? -/
def sec (l : List I) : Nat → Bool
  | 0 => false
  | n + 1 => is2 (at_ l (n + 1)) && ((at_ l n).f0 == 24 && (rt (at_ l n) && !sec l n))
theorem w_pred (n : Nat) (h : n ≤ 1000) : wrap64 (((n + 1 : Nat) : Int) - 1) = (n : Int) := by unfold wrap64; omega
theorem w_succ (n : Nat) (h : n ≤ 1000) : wrap64 ((n : Int) + 1) = ((n + 1 : Nat) : Int) := by unfold wrap64; omega
theorem isa_second {l : List I} (hl : ∀ x ∈ l, OkI x) (hm : l.length ≤ 1000) : ∀ (n k : Nat), n < l.length → n + 12 ≤ k → isa_Second.f k l (n : Int) = some (sec l n)
  | 0, k, _, hk => by
    obtain ⟨m, rfl⟩ : ∃ m, k = m + 1 := ⟨k - 1, by omega⟩
    simp only [isa_Second.f]
    rw [if_neg (by omega)]
    rfl
  | n + 1, k, hn, hk => by
    obtain ⟨m, rfl⟩ : ∃ m, k = m + 1 := ⟨k - 1, by omega⟩
    have ih := isa_second hl hm n m (by omega) (by omega)
    simp only [isa_Second.f]
    rw [if_pos (by omega), if_pos (by omega), if_pos (by omega)]
    rw [w_pred n (by omega), fold, fold]
    have e2 : isa_isSecond.f (at_ l (n + 1)).f0 (at_ l (n + 1)).f1 (at_ l (n + 1)).f2 (at_ l (n + 1)).f3 (at_ l (n + 1)).f4 = some (is2 (at_ l (n + 1))) := rfl
    rw [e2, Option.bind_some, rt_isa (at_ok hl (n := n) (by omega)) m (by omega), ih]
    rw [show sec l (n + 1) = (is2 (at_ l (n + 1)) && ((at_ l n).f0 == 24 && (rt (at_ l n) && !sec l n))) from rfl]
    cases h2 : is2 (at_ l (n + 1)) with
    | false => rfl
    | true =>
      rw [if_pos rfl, if_pos (by omega), if_pos (by omega)]
      by_cases h24 : (at_ l n).f0 = 24
      · rw [if_pos h24]
        cases hrr : rt (at_ l n) <;> simp [h24]
      · rw [if_neg h24]
        have : ((at_ l n).f0 == 24) = false := beq_eq_false_iff_ne.mpr h24
        simp [this]
theorem isa_second_out {l : List I} (k : Nat) (a : Int) (h : a ≤ 0 ∨ (l.length : Int) ≤ a) : isa_Second.f (k + 1) l a = some false := by
  simp only [isa_Second.f]
  by_cases h0 : a > 0
  · rw [if_pos h0, if_neg (by omega)]
  · rw [if_neg h0]
def nx (l : List I) (n : Nat) : Bool := if n < l.length then sec l n else false
theorem isa_second_nx {l : List I} (hl : ∀ x ∈ l, OkI x) (hm : l.length ≤ 1000) (n k : Nat) (hk : l.length + 12 ≤ k) : isa_Second.f k l (n : Int) = some (nx l n) := by
  unfold nx
  by_cases h : n < l.length
  · rw [if_pos h, isa_second hl hm n k h (by omega)]
  · rw [if_neg h]
    obtain ⟨m, rfl⟩ : ∃ m, k = m + 1 := ⟨k - 1, by omega⟩
    exact isa_second_out m _ (Or.inr (by omega))
def wd (x y : I) : Int := Go.bits .or .u64 ((x.f4) % 4294967296) (((y.f4) % 4294967296) * 4294967296)
/-- Is the instruction at a place as it must be? -/
def gd (l : List I) (maps : Int) (n : Nat) : Bool := sec l n || (rt (at_ l n) && (if (at_ l n).f0 = 24 then nx l (n + 1) && ((at_ l n).f2 == 0 || decide (wd (at_ l n) (at_ l (n + 1)) < IntKind.u64.wrap (mx maps 0))) else if jm (at_ l n) = true then decide (0 ≤ (at_ l n).f3) && (decide ((n : Int) + 1 + (at_ l n).f3 < l.length) && !nx l ((n : Int) + 1 + (at_ l n).f3).toNat) else true))
theorem w_to (n : Nat) (o : Int) (hn : n ≤ 1000) (ho : -32768 ≤ o ∧ o < 32768) : wrap64 (wrap64 ((n : Int) + 1) + wrap64 o) = (n : Int) + 1 + o := by unfold wrap64; omega
theorem isa_goodAt {l : List I} (hl : ∀ x ∈ l, OkI x) (hm : l.length ≤ 1000) (maps : Int) (n k : Nat) (hn : n < l.length) (hk : l.length + 12 ≤ k) : isa_good.f k l (n : Int) maps = some (gd l maps n) := by
  have ho := at_ok hl hn
  have hr := rt_isa ho k (by omega)
  have hj := jm_isa ho
  have hs := isa_second hl hm n k hn (by omega)
  have hx := isa_second_nx hl hm (n + 1) k hk
  have hb := i16_of ho.2.2.2.1
  unfold isa_good.f
  rw [if_pos (by omega), if_pos (by omega), hs, Option.bind_some, fold]
  unfold gd
  cases h0 : sec l n with
  | true => rfl
  | false =>
    rw [if_neg Bool.false_ne_true, hr, Option.bind_some]
    cases h1 : rt (at_ l n) with
    | false => rfl
    | true =>
      rw [if_pos rfl]
      by_cases h2 : (at_ l n).f0 = 24
      · rw [if_pos h2, w_succ n (by omega), hx, Option.bind_some, if_pos h2, fold]
        cases h3 : nx l (n + 1) with
        | false => rfl
        | true =>
          have h3' : n + 1 < l.length := by
            unfold nx at h3
            by_cases h : n + 1 < l.length
            · exact h
            · rw [if_neg h] at h3; cases h3
          rw [if_pos rfl]
          by_cases h4 : (at_ l n).f2 = 0
          · rw [if_pos h4]
            simp [h4]
          · rw [if_neg h4, if_pos (by omega), if_pos (by omega)]
            have h4b : ((at_ l n).f2 == 0) = false := beq_eq_false_iff_ne.mpr h4
            rw [h4b]
            rfl
      · rw [if_neg h2, hj, Option.bind_some, if_neg h2]
        cases h3 : jm (at_ l n) with
        | false => rfl
        | true =>
          rw [if_pos rfl, if_pos rfl, w_to n _ (by omega) hb]
          by_cases h4 : 0 ≤ (at_ l n).f3
          · rw [if_pos h4, decide_eq_true h4]
            by_cases h5 : (n : Int) + 1 + (at_ l n).f3 < l.length
            · rw [if_pos h5, decide_eq_true h5]
              have hq := isa_second_nx hl hm ((n : Int) + 1 + (at_ l n).f3).toNat k hk
              have e : ((((n : Int) + 1 + (at_ l n).f3).toNat : Nat) : Int) = (n : Int) + 1 + (at_ l n).f3 := Int.toNat_of_nonneg (by omega)
              rw [e] at hq
              rw [hq]
              rfl
            · rw [if_neg h5, decide_eq_false h5]
              rfl
          · rw [if_neg h4, decide_eq_false h4]
            rfl
theorem isa_scanAt {l : List I} (hl : ∀ x ∈ l, OkI x) (hm : l.length ≤ 1000) (maps : Int) (k : Nat) (hk : l.length + 12 ≤ k) : ∀ (m n : Nat), n + m = l.length → ∃ r, isa_scan k l maps m (n : Int) = some r ∧ (0 ≤ r ↔ ∃ j, n ≤ j ∧ j < l.length ∧ gd l maps j = false)
  | 0, n, h => ⟨-1, rfl, by constructor
                            · intro h0; omega
                            · rintro ⟨j, h1, h2, _⟩; omega⟩
  | m + 1, n, h => by
    unfold isa_scan
    rw [isa_goodAt hl hm maps n k (by omega) hk, Option.bind_some]
    cases h0 : gd l maps n with
    | false => exact ⟨n, rfl, fun _ => ⟨n, Nat.le_refl _, by omega, h0⟩, fun _ => by omega⟩
    | true =>
      rw [if_pos rfl]
      obtain ⟨r, h1, h2⟩ := isa_scanAt hl hm maps k hk m (n + 1) (by omega)
      refine ⟨r, by rw [← h1]; congr 1, h2.trans ?_⟩
      constructor
      · rintro ⟨j, a, b, c⟩; exact ⟨j, by omega, b, c⟩
      · rintro ⟨j, a, b, c⟩
        refine ⟨j, ?_, b, c⟩
        rcases Nat.lt_or_ge n j with h' | h'
        · exact h'
        · have : n = j := by omega
          subst this
          rw [h0] at c; cases c
/-- A code that is well formed. -/
def AllGood (l : List I) (maps : Int) : Prop := 1 ≤ l.length ∧ l.length ≤ 64 ∧ isa_exit (rd_T24 l ((l.length : Int) - 1)) = true ∧ ∀ j, j < l.length → gd l maps j = true
theorem isa_checkAt {l : List I} (hl : ∀ x ∈ l, OkI x) (hm : l.length ≤ 1000) (maps : Int) (k : Nat) (hk : l.length + 12 ≤ k) : ∃ c, isa_Check.f k l maps = some c ∧ (c = 0 ∨ c = 22) ∧ (c = 0 ↔ AllGood l maps) := by
  unfold isa_Check.f AllGood
  by_cases h0 : l.length = 0
  · rw [if_pos h0]
    exact ⟨22, rfl, Or.inr rfl, by omega⟩
  · rw [if_neg h0]
    by_cases h1 : 64 < l.length
    · rw [if_pos h1]
      exact ⟨22, rfl, Or.inr rfl, by omega⟩
    · rw [if_neg h1]
      cases h2 : isa_exit (rd_T24 l ((l.length : Int) - 1)) with
      | false => exact ⟨22, rfl, Or.inr rfl, by simp⟩
      | true =>
        rw [if_pos rfl]
        obtain ⟨r, h3, h4⟩ := isa_scanAt hl hm maps k hk l.length 0 (by omega)
        have h3' : isa_scan k l maps l.length 0 = some r := h3
        rw [h3', Option.bind_some]
        by_cases h5 : 0 ≤ r
        · rw [if_pos h5]
          refine ⟨22, rfl, Or.inr rfl, ?_⟩
          obtain ⟨j, _, h7, h8⟩ := h4.1 h5
          constructor
          · intro h; cases h
          · rintro ⟨_, _, _, h9⟩
            rw [h9 j h7] at h8; cases h8
        · rw [if_neg h5]
          refine ⟨0, rfl, Or.inl rfl, ?_⟩
          refine ⟨fun _ => ⟨by omega, by omega, rfl, fun j hj => ?_⟩, fun _ => rfl⟩
          cases h9 : gd l maps j with
          | true => rfl
          | false => exact absurd (h4.2 ⟨j, Nat.zero_le _, hj, h9⟩) h5
theorem isa_alive (k : Nat) : halberdlaw03_alive.f (k + 20) = some true := by kernel_rfl
theorem cond_ok : ∀ op : Fin 256, ((halberdref03_Conditional.f (op.val : Int)).isSome && !((op.val == 5 || halberdref03_Conditional.f (op.val : Int) == some true) && isa_IsJump.f (op.val : Int) 0 0 0 0 != some true)) = true := by decide +kernel
theorem cond_some {x : I} (h : OkI x) : ∃ b, halberdref03_Conditional.f x.f0 = some b := by
  have h0 := u8_of h.1
  obtain ⟨n, hn⟩ : ∃ n : Nat, x.f0 = n := ⟨x.f0.toNat, by omega⟩
  have := cond_ok ⟨n, by omega⟩
  rw [hn]
  exact Option.isSome_iff_exists.1 (Bool.and_eq_true _ _ ▸ this).1
theorem jm_of {x : I} (h : OkI x) (hc : x.f0 = 5 ∨ halberdref03_Conditional.f x.f0 = some true) : jm x = true := by
  have h0 := u8_of h.1
  obtain ⟨n, hn⟩ : ∃ n : Nat, x.f0 = n := ⟨x.f0.toNat, by omega⟩
  have hk := cond_ok ⟨n, by omega⟩
  simp only [Bool.and_eq_true, Bool.not_eq_true', Bool.and_eq_false_iff] at hk
  have e : isa_IsJump.f x.f0 x.f1 x.f2 x.f3 x.f4 = isa_IsJump.f (n : Int) 0 0 0 0 := by rw [hn]; rfl
  unfold jm
  rw [e]
  rcases hk.2 with hk | hk
  · rw [hn] at hc
    simp only [Bool.or_eq_false_iff, beq_eq_false_iff_ne] at hk
    rcases hc with hc | hc
    · exact absurd (by omega) hk.1
    · exact absurd hc hk.2
  · simp only [bne_eq_false_iff_eq] at hk
    rw [hk]
    rfl
theorem w_two (n : Nat) (h : n ≤ 1000) : wrap64 ((n : Int) + 2) = ((n + 2 : Nat) : Int) := by unfold wrap64; omega
theorem last_ok {l : List I} {maps : Int} (h : AllGood l maps) : (at_ l (l.length - 1)).f0 = 149 := by
  have e := h.2.2.1
  have e2 : ((l.length : Int) - 1) = ((l.length - 1 : Nat) : Int) := by have := h.1; omega
  rw [e2, fold] at e
  unfold isa_exit at e
  simp only [Bool.and_eq_true, beq_iff_eq] at e
  exact e.1
theorem sec_0 {l : List I} {n : Nat} (h : sec l n = true) : (at_ l n).f0 = 0 := by
  cases n with
  | zero => cases h
  | succ n =>
    rw [show sec l (n + 1) = (is2 (at_ l (n + 1)) && ((at_ l n).f0 == 24 && (rt (at_ l n) && !sec l n))) from rfl] at h
    simp only [Bool.and_eq_true, is2, beq_iff_eq] at h
    exact h.1.1
set_option maxHeartbeats 4000000 in
theorem ends {l : List I} {maps : Int} (hl : ∀ x ∈ l, OkI x) (h : AllGood l maps) (p : List Bool) : ∀ (d n s k : Nat), n + d = l.length → 1 ≤ d → s ≤ n → 2 * d ≤ k → halberdlaw03_IsaEnds.l0 k l p (n : Int) (s : Int) = some true := by
  intro d
  induction d using Nat.strongRecOn with
  | ind d ih =>
    intro n s k hn hd hs hk
    obtain ⟨k, rfl⟩ : ∃ m, k = m + 1 := ⟨k - 1, by omega⟩
    have hm := h.2.1
    have ho := at_ok hl (n := n) (by omega)
    have hg := h.2.2.2 n (by omega)
    have hb := i16_of ho.2.2.2.1
    simp only [halberdlaw03_IsaEnds.l0]
    rw [if_pos (by omega), if_neg (by omega), if_pos (by omega), if_pos (by omega), fold]
    by_cases h149 : (at_ l n).f0 = 149
    · rw [if_pos h149]
    · rw [if_neg h149]
      have hlast : n + 1 < l.length := by
        rcases Nat.lt_or_ge (n + 1) l.length with h' | h'
        · exact h'
        · have e : n = l.length - 1 := by omega
          have := last_ok h
          rw [← e] at this
          exact absurd this h149
      obtain ⟨k, rfl⟩ : ∃ m, k = m + 1 := ⟨k - 1, by omega⟩
      have key : ∀ b : Bool, halberdlaw03_IsaEnds.j2 (k + 1) l p (n : Int) (s : Int) b (at_ l n).f0 (at_ l n).f1 (at_ l n).f2 (at_ l n).f3 (at_ l n).f4 = some true := by
        intro b
        have hs1 : s ≤ 1000 := by omega
        have hn1 : n ≤ 1000 := by omega
        have i1 := ih (d - 1) (by omega) (n + 1) (s + 1) k (by omega) (by omega) (by omega) (by omega)
        have step : halberdlaw03_IsaEnds.l0 k l p (wrap64 ((n : Int) + 1)) (wrap64 ((s : Int) + 1)) = some true := by
          rw [w_succ s hs1, w_succ n hn1]
          exact i1
        have jump : jm (at_ l n) = true → (at_ l n).f0 ≠ 24 → (at_ l n).f0 ≠ 0 → halberdlaw03_IsaEnds.l0 k l p (wrap64 (wrap64 ((n : Int) + 1) + wrap64 (at_ l n).f3)) (wrap64 ((s : Int) + 1)) = some true := by
          intro hj h24 hz
          unfold gd at hg
          have hsn : sec l n = false := by
            cases hq : sec l n with
            | false => rfl
            | true => exact absurd (sec_0 hq) hz
          rw [hsn, if_neg h24, if_pos hj] at hg
          simp only [Bool.false_or, Bool.and_eq_true, decide_eq_true_eq] at hg
          obtain ⟨_, g1, g2, _⟩ := hg
          obtain ⟨m, hm'⟩ : ∃ m : Nat, (n : Int) + 1 + (at_ l n).f3 = m := ⟨((n : Int) + 1 + (at_ l n).f3).toNat, by omega⟩
          have i2 := ih (l.length - m) (by omega) m (s + 1) k (by omega) (by omega) (by omega) (by omega)
          rw [w_to n _ hn1 hb, w_succ s hs1, hm']
          exact i2
        simp only [halberdlaw03_IsaEnds.j2]
        by_cases h24 : (at_ l n).f0 = 24
        · rw [if_pos h24]
          unfold gd at hg
          have hsn : sec l n = false := by
            cases hq : sec l n with
            | false => rfl
            | true =>
              have := sec_0 hq
              omega
          rw [hsn, if_pos h24] at hg
          simp only [Bool.false_or, Bool.and_eq_true] at hg
          have hnx := hg.2.1
          unfold nx at hnx
          rw [if_pos hlast] at hnx
          have hz := sec_0 hnx
          have h2 : n + 2 < l.length := by
            rcases Nat.lt_or_ge (n + 2) l.length with h' | h'
            · exact h'
            · have e : n + 1 = l.length - 1 := by omega
              have := last_ok h
              rw [← e] at this
              omega
          have i3 := ih (d - 2) (by omega) (n + 2) (s + 1) k (by omega) (by omega) (by omega) (by omega)
          rw [w_two n hn1, w_succ s hs1]
          exact i3
        · rw [if_neg h24]
          by_cases h5 : (at_ l n).f0 = 5
          · rw [if_pos h5]
            exact jump (jm_of ho (Or.inl h5)) h24 (by omega)
          · rw [if_neg h5]
            obtain ⟨c, hc⟩ := cond_some ho
            rw [hc, Option.bind_some]
            cases c with
            | false => exact step
            | true =>
              rw [if_pos rfl]
              cases b with
              | false => exact step
              | true =>
                rw [if_pos rfl]
                refine jump (jm_of ho (Or.inr hc)) h24 (fun hz => ?_)
                rw [hz] at hc
                exact absurd hc (by decide +kernel)
      by_cases hp : (s : Int) < (p.length : Int)
      · rw [if_pos hp, if_pos (by omega)]
        exact key _
      · rw [if_neg hp]
        exact key false
theorem IsaEnds : halberdlaw03_IsaEnds.Pure := by
  intro l maps p hl _ _
  refine ⟨400, ?_⟩
  unfold halberdlaw03_IsaEnds.f
  rw [show halberdlaw03_alive.f 400 = some true from isa_alive 380, Option.bind_some, if_pos rfl]
  by_cases h100 : (l.length : Int) > 100
  · rw [if_pos h100]
    simp only [halberdlaw03_IsaEnds.j0, if_true]
  · rw [if_neg h100]
    obtain ⟨c, h1, _, h3⟩ := isa_checkAt hl.2.2 (by omega) maps 400 (by omega)
    rw [h1, Option.bind_some]
    by_cases hc : c = 0
    · subst hc
      have hg := h3.1 rfl
      simp only [halberdlaw03_IsaEnds.j0, bne_self_eq_false, Bool.false_eq_true, if_false]
      exact ends hl.2.2 hg p l.length 0 0 _ (by omega) hg.1 (Nat.le_refl _) (by have := hg.2.1; omega)
    · have hb : (c != 0) = true := bne_iff_ne.mpr hc
      rw [hb]
      simp only [halberdlaw03_IsaEnds.j0, if_true]
end Go.Proofs.Ytkbngkhajkhfgaa.Pure
