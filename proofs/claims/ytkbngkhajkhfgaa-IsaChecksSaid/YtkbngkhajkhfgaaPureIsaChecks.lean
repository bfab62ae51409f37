/- Whether any code is well formed, and which of its instructions are second ones, is the document's; for every code and any number of maps. -/
import Derived.Test.YtkbngkhajkhfgaaPIsaChecksx9
import Derived.Test.YtkbngkhajkhfgaaVTB
set_option linter.unusedVariables false
set_option linter.unusedSimpArgs false
namespace Go.Proofs.Ytkbngkhajkhfgaa.Pure
open Go.RowKit Go.Proofs.Ytkbngkhajkhfgaa.PIsaChecks Go.Proofs.YtkbngkhajkhfgaaW.PrintWords Go.Proofs.YtkbngkhajkhfgaaW.PrintLast Go.Proofs.YtkbngkhajkhfgaaW.PrintMore Go.Proofs.Ytkbngkhajkhfgaa.HB Go.Proofs.Ytkbngkhajkhfgaa.TB

theorem u8_of {a : Int} (h : (Lit.int .u8 a).wf = true) : 0 ≤ a ∧ a < 256 := by
  have := bounds_u8 h
  omega
/-- A register's number, as far as it is looked at. -/
def cl (d : Int) : Int := if d ≤ 0 then 0 else if d ≤ 1 then 1 else if d ≤ 9 then 9 else if d ≤ 10 then 10 else 11
def zr (x : Int) : Int := if x = 0 then 0 else 1
theorem cl_le9 (d : Int) : (cl d ≤ 9) = (d ≤ 9) := by unfold cl; apply propext; repeat' split <;> omega
theorem cl_gt9 (d : Int) : (cl d > 9) = (d > 9) := by unfold cl; apply propext; repeat' split <;> omega
theorem cl_le10 (d : Int) : (cl d ≤ 10) = (d ≤ 10) := by unfold cl; apply propext; repeat' split <;> omega
theorem cl_le1 (d : Int) : (cl d ≤ 1) = (d ≤ 1) := by unfold cl; apply propext; repeat' split <;> omega
theorem cl_0 {d : Int} (h : 0 ≤ d) : (cl d = 0) = (d = 0) := by unfold cl; apply propext; repeat' split <;> omega
theorem cl_b {d : Int} (h : 0 ≤ d) : (cl d == 0) = (d == 0) := by
  rw [Bool.eq_iff_iff, beq_iff_eq, beq_iff_eq, cl_0 h]
theorem zr_0 (x : Int) : (zr x = 0) = (x = 0) := by unfold zr; apply propext; split <;> omega
theorem zr_b (x : Int) : (zr x == 0) = (x == 0) := by
  rw [Bool.eq_iff_iff, beq_iff_eq, beq_iff_eq, zr_0]
theorem zr_n (x : Int) : (zr x != 0) = (x != 0) := by
  unfold bne
  rw [zr_b]
theorem cl_mem {d : Int} (h : 0 ≤ d) : ∃ j : Fin 5, cl d = [0, 1, 9, 10, 11].getD j.val (0 : Int) := by
  unfold cl
  repeat' split
  · exact ⟨0, rfl⟩
  · exact ⟨1, rfl⟩
  · exact ⟨2, rfl⟩
  · exact ⟨3, rfl⟩
  · exact ⟨4, rfl⟩
theorem zr_mem (x : Int) : ∃ j : Fin 2, zr x = [0, 1].getD j.val (0 : Int) := by
  unfold zr
  split
  · exact ⟨0, rfl⟩
  · exact ⟨1, rfl⟩
/-- What a number's register is held against. -/
def lim (m : Int) : Bool := m == 0 || (m == 1 || (m == 9 || m == 10))
theorem cl_lim {d m : Int} (hm : lim m = true) (h : 0 ≤ d) : (cl d ≤ m) = (d ≤ m) := by
  simp only [lim, Bool.or_eq_true, beq_iff_eq] at hm
  rcases hm with rfl | rfl | rfl | rfl
  · unfold cl; apply propext; repeat' split <;> omega
  · exact cl_le1 d
  · exact cl_le9 d
  · exact cl_le10 d
def shapeOk (r : Option (Int × Int × Bool × Bool × Bool)) : Bool := match r with
  | some t => lim t.1 && lim t.2.1
  | none => false
theorem shape_ok : ∀ op : Fin 256, shapeOk (isa_shapeOf.f 10 (op.val : Int)) = true := by decide +kernel
theorem right_cl (op dst src off imm : Int) (ho : 0 ≤ op ∧ op < 256) (h1 : 0 ≤ dst) (h2 : 0 ≤ src) : isa_Right.f 10 op (cl dst) (cl src) (zr off) (zr imm) = isa_Right.f 10 op dst src off imm := by
  obtain ⟨n, rfl⟩ : ∃ n : Nat, op = n := ⟨op.toNat, by omega⟩
  have hs := shape_ok ⟨n, by omega⟩
  simp only at hs
  unfold isa_Right.f
  cases hq : isa_shapeOf.f 10 (n : Int) with
  | none => rw [hq] at hs; exact absurd hs (by decide)
  | some t =>
    rw [hq] at hs
    simp only [shapeOk, Bool.and_eq_true] at hs
    simp only [Option.bind_some, cl_lim hs.1 h1, cl_lim hs.2 h2, zr_0, zr_b]
theorem right_some (op dst src off imm : Int) (ho : 0 ≤ op ∧ op < 256) : ∃ b, isa_Right.f 10 op dst src off imm = some b := by
  obtain ⟨n, rfl⟩ : ∃ n : Nat, op = n := ⟨op.toNat, by omega⟩
  have hs := shape_ok ⟨n, by omega⟩
  simp only at hs
  unfold isa_Right.f
  cases hq : isa_shapeOf.f 10 (n : Int) with
  | none => rw [hq] at hs; exact absurd hs (by decide)
  | some t =>
    rw [Option.bind_some]
    repeat' split
    all_goals exact ⟨_, rfl⟩
theorem isjump_ok : ∀ op : Fin 256, (isa_IsJump.f (op.val : Int) 0 0 0 0).isSome = true := by decide +kernel
theorem isjump_some (op a b c d : Int) (ho : 0 ≤ op ∧ op < 256) : ∃ x, isa_IsJump.f op a b c d = some x := by
  obtain ⟨n, rfl⟩ : ∃ n : Nat, op = n := ⟨op.toNat, by omega⟩
  exact Option.isSome_iff_exists.1 (isjump_ok ⟨n, by omega⟩)
theorem ref_cl (op dst src off imm : Int) (h1 : 0 ≤ dst) (h2 : 0 ≤ src) : halberdref03_Right.f 10 op (cl dst) (cl src) (zr off) (zr imm) = halberdref03_Right.f 10 op dst src off imm := by
  simp only [halberdref03_Right.f, halberdref03_Right.j0, halberdref03_Right.j1, cl_le9, cl_gt9, cl_le10, cl_le1, cl_0 h1, cl_0 h2, cl_b h1, cl_b h2, zr_0, zr_b, zr_n]
def bothSay (a b : Option Bool) : Bool := match a, b with
  | some x, some y => x == y
  | _, _ => false
theorem bothSay_of {a b : Option Bool} (h : bothSay a b = true) : ∃ x, a = some x ∧ b = some x := by
  unfold bothSay at h
  split at h
  · exact ⟨_, rfl, by rw [beq_iff_eq.1 h]⟩
  · cases h
theorem right_all : ∀ op : Fin 256, ∀ d s : Fin 5, ∀ o i : Fin 2, bothSay (isa_Right.f 10 (op.val : Int) ([0, 1, 9, 10, 11].getD d.val 0) ([0, 1, 9, 10, 11].getD s.val 0) ([0, 1].getD o.val 0) ([0, 1].getD i.val 0)) (halberdref03_Right.f 10 (op.val : Int) ([0, 1, 9, 10, 11].getD d.val 0) ([0, 1, 9, 10, 11].getD s.val 0) ([0, 1].getD o.val 0) ([0, 1].getD i.val 0)) = true := by decide +kernel
/-- Whether an instruction is right is the document's. -/
theorem right_both (op dst src off imm : Int) (ho : 0 ≤ op ∧ op < 256) (h1 : 0 ≤ dst) (h2 : 0 ≤ src) : ∃ b, isa_Right.f 10 op dst src off imm = some b ∧ halberdref03_Right.f 10 op dst src off imm = some b := by
  rw [← right_cl op dst src off imm ho h1 h2, ← ref_cl op dst src off imm h1 h2]
  obtain ⟨n, rfl⟩ : ∃ n : Nat, op = n := ⟨op.toNat, by omega⟩
  obtain ⟨d, hd⟩ := cl_mem h1
  obtain ⟨s, hs⟩ := cl_mem h2
  obtain ⟨o, ho'⟩ := zr_mem off
  obtain ⟨i, hi⟩ := zr_mem imm
  rw [hd, hs, ho', hi]
  exact bothSay_of (right_all ⟨n, by omega⟩ d s o i)
theorem jump_all : ∀ op : Fin 256, bothSay (isa_IsJump.f (op.val : Int) 0 0 0 0) (halberdref03_Jump.f (op.val : Int) 0 0 0 0) = true := by decide +kernel
theorem jump_both (op a b c d : Int) (ho : 0 ≤ op ∧ op < 256) : ∃ x, isa_IsJump.f op a b c d = some x ∧ halberdref03_Jump.f op a b c d = some x := by
  obtain ⟨n, rfl⟩ : ∃ n : Nat, op = n := ⟨op.toNat, by omega⟩
  exact bothSay_of (jump_all ⟨n, by omega⟩)
/-! ### One instruction, and the places in a code -/
abbrev I := S24
def OkI (x : I) : Prop := ((Lit.int .u8 x.f0).wf = true) ∧ ((Lit.int .u8 x.f1).wf = true) ∧ ((Lit.int .u8 x.f2).wf = true) ∧ ((Lit.int .i16 x.f3).wf = true) ∧ ((Lit.int .i32 x.f4).wf = true)
theorem i16_of {a : Int} (h : (Lit.int .i16 a).wf = true) : -32768 ≤ a ∧ a < 32768 := by
  have := bounds_i16 h
  omega
theorem i32_of {a : Int} (h : (Lit.int .i32 a).wf = true) : -2147483648 ≤ a ∧ a < 2147483648 := by
  have := bounds_i32 h
  omega
def rt (x : I) : Bool := (isa_Right.f 10 x.f0 x.f1 x.f2 x.f3 x.f4).getD false
theorem rt_isa {x : I} (h : OkI x) (k : Nat) (hk : 10 ≤ k) : isa_Right.f k x.f0 x.f1 x.f2 x.f3 x.f4 = some (rt x) := by
  obtain ⟨m, rfl⟩ : ∃ m, k = m + 10 := ⟨k - 10, by omega⟩
  obtain ⟨b, hb⟩ := right_some x.f0 x.f1 x.f2 x.f3 x.f4 (u8_of h.1)
  refine (show isa_Right.f (m + 10) x.f0 x.f1 x.f2 x.f3 x.f4 = isa_Right.f 10 x.f0 x.f1 x.f2 x.f3 x.f4 from rfl).trans ?_
  unfold rt
  rw [hb]
  rfl
def jm (x : I) : Bool := (isa_IsJump.f x.f0 x.f1 x.f2 x.f3 x.f4).getD false
theorem jm_isa {x : I} (h : OkI x) : isa_IsJump.f x.f0 x.f1 x.f2 x.f3 x.f4 = some (jm x) := by
  obtain ⟨b, hb⟩ := isjump_some x.f0 x.f1 x.f2 x.f3 x.f4 (u8_of h.1)
  unfold jm
  rw [hb]
  rfl
def at_ (l : List I) (n : Nat) : I := rd_T24 l (n : Int)
theorem fold (l : List I) (n : Nat) : rd_T24 l (n : Int) = at_ l n := rfl
theorem at_ok {l : List I} (hl : ∀ x ∈ l, OkI x) {n : Nat} (hn : n < l.length) : OkI (at_ l n) := by
  have e : at_ l n = l[n] := by
    unfold at_ rd_T24
    simp [List.getD_eq_getElem?_getD, hn]
  rw [e]
  exact hl _ (List.getElem_mem hn)
def is2 (x : I) : Bool := x.f0 == 0 && (x.f1 == 0 && (x.f2 == 0 && (x.f3 == 0)))
/-- Does a second one stand at a place? -/
def sec (l : List I) : Nat → Bool
  | 0 => false
  | n + 1 => is2 (at_ l (n + 1)) && ((at_ l n).f0 == 24 && (rt (at_ l n) && !sec l n))
theorem w_pred (n : Nat) (h : n ≤ 1000) : wrap64 (((n + 1 : Nat) : Int) - 1) = (n : Int) := by unfold wrap64; omega
theorem w_succ (n : Nat) (h : n ≤ 1000) : wrap64 ((n : Int) + 1) = ((n + 1 : Nat) : Int) := by unfold wrap64; omega
theorem isa_second {l : List I} (hl : ∀ x ∈ l, OkI x) (hm : l.length ≤ 1000) : ∀ (n k : Nat), n < l.length → n + 12 ≤ k → isa_Second.f k l (n : Int) = some (sec l n)
  | 0, k, _, hk => by
    obtain ⟨m, rfl⟩ : ∃ m, k = m + 1 := ⟨k - 1, by omega⟩
    simp only [isa_Second.f]
    rw [if_neg (by omega)]
    rfl
  | n + 1, k, hn, hk => by
    obtain ⟨m, rfl⟩ : ∃ m, k = m + 1 := ⟨k - 1, by omega⟩
    have ih := isa_second hl hm n m (by omega) (by omega)
    simp only [isa_Second.f]
    rw [if_pos (by omega), if_pos (by omega), if_pos (by omega)]
    rw [w_pred n (by omega), fold, fold]
    have e2 : isa_isSecond.f (at_ l (n + 1)).f0 (at_ l (n + 1)).f1 (at_ l (n + 1)).f2 (at_ l (n + 1)).f3 (at_ l (n + 1)).f4 = some (is2 (at_ l (n + 1))) := rfl
    rw [e2, Option.bind_some, rt_isa (at_ok hl (n := n) (by omega)) m (by omega), ih]
    rw [show sec l (n + 1) = (is2 (at_ l (n + 1)) && ((at_ l n).f0 == 24 && (rt (at_ l n) && !sec l n))) from rfl]
    cases h2 : is2 (at_ l (n + 1)) with
    | false => rfl
    | true =>
      rw [if_pos rfl, if_pos (by omega), if_pos (by omega)]
      by_cases h24 : (at_ l n).f0 = 24
      · rw [if_pos h24]
        cases hrr : rt (at_ l n) <;> simp [h24]
      · rw [if_neg h24]
        have : ((at_ l n).f0 == 24) = false := beq_eq_false_iff_ne.mpr h24
        simp [this]
theorem isa_second_out {l : List I} (k : Nat) (a : Int) (h : a ≤ 0 ∨ (l.length : Int) ≤ a) : isa_Second.f (k + 1) l a = some false := by
  simp only [isa_Second.f]
  by_cases h0 : a > 0
  · rw [if_pos h0, if_neg (by omega)]
  · rw [if_neg h0]
def nx (l : List I) (n : Nat) : Bool := if n < l.length then sec l n else false
theorem isa_second_nx {l : List I} (hl : ∀ x ∈ l, OkI x) (hm : l.length ≤ 1000) (n k : Nat) (hk : l.length + 12 ≤ k) : isa_Second.f k l (n : Int) = some (nx l n) := by
  unfold nx
  by_cases h : n < l.length
  · rw [if_pos h, isa_second hl hm n k h (by omega)]
  · rw [if_neg h]
    obtain ⟨m, rfl⟩ : ∃ m, k = m + 1 := ⟨k - 1, by omega⟩
    exact isa_second_out m _ (Or.inr (by omega))
def wd (x y : I) : Int := Go.bits .or .u64 ((x.f4) % 4294967296) (((y.f4) % 4294967296) * 4294967296)
/-- Is the instruction at a place as it must be? -/
def gd (l : List I) (maps : Int) (n : Nat) : Bool := sec l n || (rt (at_ l n) && (if (at_ l n).f0 = 24 then nx l (n + 1) && ((at_ l n).f2 == 0 || decide (wd (at_ l n) (at_ l (n + 1)) < IntKind.u64.wrap (mx maps 0))) else if jm (at_ l n) = true then decide (0 ≤ (at_ l n).f3) && (decide ((n : Int) + 1 + (at_ l n).f3 < l.length) && !nx l ((n : Int) + 1 + (at_ l n).f3).toNat) else true))
theorem w_to (n : Nat) (o : Int) (hn : n ≤ 1000) (ho : -32768 ≤ o ∧ o < 32768) : wrap64 (wrap64 ((n : Int) + 1) + wrap64 o) = (n : Int) + 1 + o := by unfold wrap64; omega
theorem isa_goodAt {l : List I} (hl : ∀ x ∈ l, OkI x) (hm : l.length ≤ 1000) (maps : Int) (n k : Nat) (hn : n < l.length) (hk : l.length + 12 ≤ k) : isa_good.f k l (n : Int) maps = some (gd l maps n) := by
  have ho := at_ok hl hn
  have hr := rt_isa ho k (by omega)
  have hj := jm_isa ho
  have hs := isa_second hl hm n k hn (by omega)
  have hx := isa_second_nx hl hm (n + 1) k hk
  have hb := i16_of ho.2.2.2.1
  unfold isa_good.f
  rw [if_pos (by omega), if_pos (by omega), hs, Option.bind_some, fold]
  unfold gd
  cases h0 : sec l n with
  | true => rfl
  | false =>
    rw [if_neg Bool.false_ne_true, hr, Option.bind_some]
    cases h1 : rt (at_ l n) with
    | false => rfl
    | true =>
      rw [if_pos rfl]
      by_cases h2 : (at_ l n).f0 = 24
      · rw [if_pos h2, w_succ n (by omega), hx, Option.bind_some, if_pos h2, fold]
        cases h3 : nx l (n + 1) with
        | false => rfl
        | true =>
          have h3' : n + 1 < l.length := by
            unfold nx at h3
            by_cases h : n + 1 < l.length
            · exact h
            · rw [if_neg h] at h3; cases h3
          rw [if_pos rfl]
          by_cases h4 : (at_ l n).f2 = 0
          · rw [if_pos h4]
            simp [h4]
          · rw [if_neg h4, if_pos (by omega), if_pos (by omega)]
            have h4b : ((at_ l n).f2 == 0) = false := beq_eq_false_iff_ne.mpr h4
            rw [h4b]
            rfl
      · rw [if_neg h2, hj, Option.bind_some, if_neg h2]
        cases h3 : jm (at_ l n) with
        | false => rfl
        | true =>
          rw [if_pos rfl, if_pos rfl, w_to n _ (by omega) hb]
          by_cases h4 : 0 ≤ (at_ l n).f3
          · rw [if_pos h4, decide_eq_true h4]
            by_cases h5 : (n : Int) + 1 + (at_ l n).f3 < l.length
            · rw [if_pos h5, decide_eq_true h5]
              have hq := isa_second_nx hl hm ((n : Int) + 1 + (at_ l n).f3).toNat k hk
              have e : ((((n : Int) + 1 + (at_ l n).f3).toNat : Nat) : Int) = (n : Int) + 1 + (at_ l n).f3 := Int.toNat_of_nonneg (by omega)
              rw [e] at hq
              rw [hq]
              rfl
            · rw [if_neg h5, decide_eq_false h5]
              rfl
          · rw [if_neg h4, decide_eq_false h4]
            rfl
theorem isa_scanAt {l : List I} (hl : ∀ x ∈ l, OkI x) (hm : l.length ≤ 1000) (maps : Int) (k : Nat) (hk : l.length + 12 ≤ k) : ∀ (m n : Nat), n + m = l.length → ∃ r, isa_scan k l maps m (n : Int) = some r ∧ (0 ≤ r ↔ ∃ j, n ≤ j ∧ j < l.length ∧ gd l maps j = false)
  | 0, n, h => ⟨-1, rfl, by constructor
                            · intro h0; omega
                            · rintro ⟨j, h1, h2, _⟩; omega⟩
  | m + 1, n, h => by
    unfold isa_scan
    rw [isa_goodAt hl hm maps n k (by omega) hk, Option.bind_some]
    cases h0 : gd l maps n with
    | false => exact ⟨n, rfl, fun _ => ⟨n, Nat.le_refl _, by omega, h0⟩, fun _ => by omega⟩
    | true =>
      rw [if_pos rfl]
      obtain ⟨r, h1, h2⟩ := isa_scanAt hl hm maps k hk m (n + 1) (by omega)
      refine ⟨r, by rw [← h1]; congr 1, h2.trans ?_⟩
      constructor
      · rintro ⟨j, a, b, c⟩; exact ⟨j, by omega, b, c⟩
      · rintro ⟨j, a, b, c⟩
        refine ⟨j, ?_, b, c⟩
        rcases Nat.lt_or_ge n j with h' | h'
        · exact h'
        · have : n = j := by omega
          subst this
          rw [h0] at c; cases c
/-- A code that is well formed. -/
def AllGood (l : List I) (maps : Int) : Prop := 1 ≤ l.length ∧ l.length ≤ 64 ∧ isa_exit (rd_T24 l ((l.length : Int) - 1)) = true ∧ ∀ j, j < l.length → gd l maps j = true
theorem isa_checkAt {l : List I} (hl : ∀ x ∈ l, OkI x) (hm : l.length ≤ 1000) (maps : Int) (k : Nat) (hk : l.length + 12 ≤ k) : ∃ c, isa_Check.f k l maps = some c ∧ (c = 0 ∨ c = 22) ∧ (c = 0 ↔ AllGood l maps) := by
  unfold isa_Check.f AllGood
  by_cases h0 : l.length = 0
  · rw [if_pos h0]
    exact ⟨22, rfl, Or.inr rfl, by omega⟩
  · rw [if_neg h0]
    by_cases h1 : 64 < l.length
    · rw [if_pos h1]
      exact ⟨22, rfl, Or.inr rfl, by omega⟩
    · rw [if_neg h1]
      cases h2 : isa_exit (rd_T24 l ((l.length : Int) - 1)) with
      | false => exact ⟨22, rfl, Or.inr rfl, by simp⟩
      | true =>
        rw [if_pos rfl]
        obtain ⟨r, h3, h4⟩ := isa_scanAt hl hm maps k hk l.length 0 (by omega)
        have h3' : isa_scan k l maps l.length 0 = some r := h3
        rw [h3', Option.bind_some]
        by_cases h5 : 0 ≤ r
        · rw [if_pos h5]
          refine ⟨22, rfl, Or.inr rfl, ?_⟩
          obtain ⟨j, _, h7, h8⟩ := h4.1 h5
          constructor
          · intro h; cases h
          · rintro ⟨_, _, _, h9⟩
            rw [h9 j h7] at h8; cases h8
        · rw [if_neg h5]
          refine ⟨0, rfl, Or.inl rfl, ?_⟩
          refine ⟨fun _ => ⟨by omega, by omega, rfl, fun j hj => ?_⟩, fun _ => rfl⟩
          cases h9 : gd l maps j with
          | true => rfl
          | false => exact absurd (h4.2 ⟨j, Nat.zero_le _, hj, h9⟩) h5
theorem rt_both {x : I} (h : OkI x) : isa_Right.f 10 x.f0 x.f1 x.f2 x.f3 x.f4 = some (rt x) ∧ halberdref03_Right.f 10 x.f0 x.f1 x.f2 x.f3 x.f4 = some (rt x) := by
  obtain ⟨b, h1, h2⟩ := right_both x.f0 x.f1 x.f2 x.f3 x.f4 (u8_of h.1) (u8_of h.2.1).1 (u8_of h.2.2.1).1
  unfold rt
  rw [h1]
  exact ⟨rfl, h2⟩
theorem rt_ref {x : I} (h : OkI x) (k : Nat) (hk : 10 ≤ k) : halberdref03_Right.f k x.f0 x.f1 x.f2 x.f3 x.f4 = some (rt x) := by
  obtain ⟨m, rfl⟩ : ∃ m, k = m + 10 := ⟨k - 10, by omega⟩
  exact (show halberdref03_Right.f (m + 10) x.f0 x.f1 x.f2 x.f3 x.f4 = halberdref03_Right.f 10 x.f0 x.f1 x.f2 x.f3 x.f4 from rfl).trans (rt_both h).2
theorem jm_both {x : I} (h : OkI x) : isa_IsJump.f x.f0 x.f1 x.f2 x.f3 x.f4 = some (jm x) ∧ halberdref03_Jump.f x.f0 x.f1 x.f2 x.f3 x.f4 = some (jm x) := by
  obtain ⟨b, h1, h2⟩ := jump_both x.f0 x.f1 x.f2 x.f3 x.f4 (u8_of h.1)
  unfold jm
  rw [h1]
  exact ⟨rfl, h2⟩
theorem isa_alive (k : Nat) : halberdlaw03_alive.f (k + 20) = some true := by kernel_rfl
/-! ### The document's list of second ones -/
def upto (l : List I) (i : Nat) : List Bool := (List.range l.length).map fun j => if j < i then sec l j else false
theorem upto_length (l : List I) (i : Nat) : (upto l i).length = l.length := by simp [upto]
theorem upto_get (l : List I) (i j : Nat) (h : j < l.length) : rdOf false (upto l i) (j : Int) = if j < i then sec l j else false := by
  unfold rdOf upto
  simp [List.getD_eq_getElem?_getD, h]
theorem upto_set (l : List I) (i : Nat) (b : Bool) (hi : i < l.length) (hb : b = sec l i) : (upto l i).set i b = upto l (i + 1) := by
  apply List.ext_getElem?
  intro j
  unfold upto
  by_cases hj : j < l.length
  · by_cases e : i = j
    · subst e
      subst hb
      simp [hj]
    · rw [List.getElem?_set_ne e]
      simp only [List.getElem?_map, List.getElem?_range hj, Option.map_some]
      congr 1
      by_cases h1 : j < i
      · rw [if_pos h1, if_pos (by omega)]
      · rw [if_neg h1, if_neg (by omega)]
  · rw [List.getElem?_eq_none (by simp; omega), List.getElem?_eq_none (by simp; omega)]
theorem upto_one (l : List I) : List.replicate l.length false = upto l 1 := by
  apply List.ext_getElem?
  intro j
  unfold upto
  by_cases hj : j < l.length
  · simp only [List.getElem?_map, List.getElem?_range hj, Option.map_some, List.getElem?_replicate, hj, if_true]
    congr 1
    by_cases h1 : j < 1
    · rw [if_pos h1]
      obtain rfl : j = 0 := by omega
      rfl
    · rw [if_neg h1]
  · rw [List.getElem?_eq_none (by simp; omega), List.getElem?_eq_none (by simp; omega)]
theorem w_set (l : List I) (i : Nat) (b : Bool) : (upto l i).set (((i : Nat) : Int)).toNat b = (upto l i).set i b := rfl
theorem seconds_from {l : List I} (hl : ∀ x ∈ l, OkI x) (hm : l.length ≤ 1000) : ∀ (d i k : Nat), i + 1 + d = l.length → d + 12 ≤ k → halberdref03_Seconds.l0 k l (upto l (i + 1)) ((i + 1 : Nat) : Int) = some (upto l l.length)
  | 0, i, k, h, hk => by
    obtain ⟨m, rfl⟩ : ∃ m, k = m + 1 := ⟨k - 1, by omega⟩
    simp only [halberdref03_Seconds.l0]
    rw [if_neg (by omega), ← h]
  | d + 1, i, k, h, hk => by
    obtain ⟨m, rfl⟩ : ∃ m, k = m + 1 := ⟨k - 1, by omega⟩
    have ih := seconds_from hl hm d (i + 1) m (by omega) (by omega)
    have hx := rt_ref (at_ok hl (n := i) (by omega)) m (by omega)
    have hlen : i + 1 < l.length := by omega
    have hi : i < l.length := by omega
    have hi1 : i + 1 ≤ 1000 := by omega
    have hi0 : i ≤ 1000 := by omega
    have c1 : ((i + 1 : Nat) : Int) < (l.length : Int) := by omega
    have c2 : (0 : Int) ≤ ((i + 1 : Nat) : Int) := by omega
    have c3 : (0 : Int) ≤ (i : Int) := by omega
    have c4 : (i : Int) < ((upto l (i + 1)).length : Int) := by rw [upto_length]; omega
    have c5 : ((i + 1 : Nat) : Int) < ((upto l (i + 1)).length : Int) := by rw [upto_length]; omega
    have c6 : (i : Int) < (l.length : Int) := by omega
    have c7 : i < i + 1 := by omega
    have fin : ∀ b : Bool, b = sec l (i + 1) → halberdref03_Seconds.l0 m l ((upto l (i + 1)).set (((i + 1 : Nat) : Int)).toNat b) (wrap64 (((i + 1 : Nat) : Int) + 1)) = some (upto l l.length) := by
      intro b hb
      rw [w_set, upto_set l (i + 1) b hlen hb, w_succ (i + 1) hi1]
      exact ih
    simp only [halberdref03_Seconds.l0]
    rw [if_pos c1, if_pos c2, w_pred i hi0, if_pos c3, if_pos c4, upto_get l (i + 1) i hi, if_pos c7, if_pos c5, if_pos c6, fold, fold, hx]
    have hs : sec l (i + 1) = (is2 (at_ l (i + 1)) && ((at_ l i).f0 == 24 && (rt (at_ l i) && !sec l i))) := rfl
    cases h0 : sec l i with
    | true =>
      rw [if_pos rfl]
      exact fin _ (by rw [hs, h0]; simp)
    | false =>
      rw [if_neg Bool.false_ne_true]
      by_cases h24 : (at_ l i).f0 = 24
      · rw [if_pos h24, Option.bind_some]
        have e24 : ((at_ l i).f0 == 24) = true := beq_iff_eq.mpr h24
        cases h1 : rt (at_ l i) with
        | false =>
          rw [if_neg Bool.false_ne_true]
          exact fin _ (by rw [hs, h1]; simp)
        | true =>
          rw [if_pos rfl]
          by_cases a0 : (at_ l (i + 1)).f0 = 0
          · rw [if_pos a0]
            by_cases a1 : (at_ l (i + 1)).f1 = 0
            · rw [if_pos a1]
              by_cases a2 : (at_ l (i + 1)).f2 = 0
              · rw [if_pos a2]
                rw [if_pos c5]
                exact fin ((at_ l (i + 1)).f3 == 0) (by rw [hs, h1, e24, h0]; simp [is2, a0, a1, a2])
              · rw [if_neg a2]
                exact fin _ (by rw [hs]; simp [is2, a2])
            · rw [if_neg a1]
              exact fin _ (by rw [hs]; simp [is2, a1])
          · rw [if_neg a0]
            exact fin _ (by rw [hs]; simp [is2, a0])
      · rw [if_neg h24]
        have e24 : ((at_ l i).f0 == 24) = false := beq_eq_false_iff_ne.mpr h24
        exact fin _ (by rw [hs, e24]; simp)
theorem seconds_all {l : List I} (hl : ∀ x ∈ l, OkI x) (hm : l.length ≤ 1000) (k : Nat) (hk : l.length + 12 ≤ k) : halberdref03_Seconds.f k l = some (upto l l.length) := by
  unfold halberdref03_Seconds.f
  rw [if_pos (by omega), if_pos (by omega), Int.toNat_natCast, upto_one]
  rcases Nat.eq_zero_or_pos l.length with h | h
  · obtain ⟨m, rfl⟩ : ∃ m, k = m + 1 := ⟨k - 1, by omega⟩
    simp only [halberdref03_Seconds.l0]
    rw [if_neg (by omega)]
    have e : l = [] := List.eq_nil_of_length_eq_zero h
    subst e
    rfl
  · exact seconds_from hl hm (l.length - 1) 0 k (by omega) (by omega)
theorem S_get (l : List I) (j : Nat) (h : j < l.length) : rdOf false (upto l l.length) (j : Int) = sec l j := by
  rw [upto_get l l.length j h, if_pos h]
theorem S_nx (l : List I) (j : Nat) (h : j < l.length) : nx l j = sec l j := by
  unfold nx
  rw [if_pos h]
/-! ### Numbers of two instructions -/
theorem iw_or {a b : Int} (ha : 0 ≤ a ∧ a < 4294967296) (hb : 0 ≤ b ∧ b < 4294967296) : Go.bits .or .u64 a (b * 4294967296) = a + b * 4294967296 := by
  obtain ⟨a, rfl⟩ : ∃ n : Nat, a = n := ⟨a.toNat, by omega⟩
  obtain ⟨b, rfl⟩ : ∃ n : Nat, b = n := ⟨b.toNat, by omega⟩
  have e : ((b : Int) * 4294967296) = ((2 ^ 32 * b : Nat) : Int) := by
    have : (2 : Nat) ^ 32 = 4294967296 := rfl
    rw [this]; omega
  have h := Nat.two_pow_add_eq_or_of_lt (i := 32) (b := a) (by omega) b
  rw [e]
  have hU1 : ((a : Nat) : Int) = U (BitVec.ofNat 64 a) := by
    unfold U; rw [BitVec.toNat_ofNat, Nat.mod_eq_of_lt (by omega)]
  have hU2 : ((2 ^ 32 * b : Nat) : Int) = U (BitVec.ofNat 64 (2 ^ 32 * b)) := by
    unfold U; rw [BitVec.toNat_ofNat, Nat.mod_eq_of_lt (by omega)]
  rw [hU1, hU2, U_or]
  unfold U
  rw [BitVec.toNat_or, BitVec.toNat_ofNat, BitVec.toNat_ofNat, Nat.mod_eq_of_lt (by omega), Nat.mod_eq_of_lt (by omega), Nat.or_comm, ← h]
  omega
theorem iw_zext (k : Nat) (x : Int) : halberdref01_Zext.f (k + 60) x 4 = some (Int.tmod x 4294967296) := by kernel_rfl
theorem wide_ref (x y : I) (k : Nat) (hk : 60 ≤ k) : halberdref02_Wide.f k x.f0 x.f1 x.f2 x.f3 x.f4 y.f0 y.f1 y.f2 y.f3 y.f4 = some (wd x y) := by
  obtain ⟨m, rfl⟩ : ∃ m, k = m + 60 := ⟨k - 60, by omega⟩
  unfold halberdref02_Wide.f wd
  rw [iw_or (by omega) (by omega), iw_zext, Option.bind_some, iw_zext, Option.bind_some]
  have k1 : Int.tmod (IntKind.u64.wrap (IntKind.i64.wrap x.f4)) 4294967296 = x.f4 % 4294967296 := by
    rw [IntKind.wrap_u64, IntKind.wrap_i64, Int.tmod_eq_emod_of_nonneg (by omega)]; omega
  have k2 : Int.tmod (IntKind.u64.wrap (IntKind.i64.wrap y.f4)) 4294967296 = y.f4 % 4294967296 := by
    rw [IntKind.wrap_u64, IntKind.wrap_i64, Int.tmod_eq_emod_of_nonneg (by omega)]; omega
  rw [k1, k2]
  congr 1
  rw [IntKind.wrap_u64, IntKind.wrap_u64]
  omega
theorem wd_lo (x y : I) : 0 ≤ wd x y := by
  unfold wd
  rw [iw_or (by omega) (by omega)]
  omega
/-! ### The document's walk over a code -/
theorem jm_24 {x : I} (h : x.f0 = 24) : jm x = false := by
  unfold jm
  have e : isa_IsJump.f x.f0 x.f1 x.f2 x.f3 x.f4 = isa_IsJump.f 24 0 0 0 0 := by rw [h]; rfl
  rw [e]
  rfl
theorem rt_24 {x : I} (ho : OkI x) (h : x.f0 = 24) (hr : rt x = true) : x.f2 = 0 ∨ x.f2 = 1 := by
  have h1 := (rt_both ho).2
  unfold halberdref03_Right.f at h1
  rw [if_pos h, hr] at h1
  have hb := (u8_of ho.2.2.1).1
  by_cases a : x.f1 ≤ 9
  · rw [if_pos a] at h1
    by_cases b : x.f3 = 0
    · rw [if_pos b] at h1
      have := of_decide_eq_true (Option.some.inj h1)
      omega
    · rw [if_neg b] at h1; cases h1
  · rw [if_neg a] at h1; cases h1
/-- From a place on all is as it must be, and the last one is an Exit. -/
def From (l : List I) (maps : Int) (i : Nat) : Prop := (∀ j, i ≤ j → j < l.length → gd l maps j = true) ∧ isa_exit (rd_T24 l ((l.length : Int) - 1)) = true
def Says (o : Option Bool) (P : Prop) : Prop := ∃ b, o = some b ∧ (b = true ↔ P)
theorem says_no {l : List I} {maps : Int} {i : Nat} (hi : i < l.length) (h : gd l maps i = false) : Says (some false) (From l maps i) :=
  ⟨false, rfl, ⟨fun h => (by cases h), fun h1 => (by have := h1.1 i (Nat.le_refl _) hi; rw [h] at this; cases this)⟩⟩
theorem says_on {l : List I} {maps : Int} {i : Nat} {o : Option Bool} (h : gd l maps i = true) (k : Says o (From l maps (i + 1))) : Says o (From l maps i) := by
  obtain ⟨b, h1, h2⟩ := k
  refine ⟨b, h1, h2.trans ⟨fun ⟨a, c⟩ => ⟨fun j hj hl => ?_, c⟩, fun ⟨a, c⟩ => ⟨fun j hj hl => a j (by omega) hl, c⟩⟩⟩
  rcases Nat.lt_or_ge i j with h' | h'
  · exact a j h' hl
  · obtain rfl : i = j := by omega
    exact h
theorem mx_lo {m : Int} (h : m < 1) : IntKind.u64.wrap (mx m 0) = 0 := by
  have : mx m 0 = 0 := by unfold mx; split <;> omega
  rw [this]
  rfl
theorem mx_hi {m : Int} (h : ¬ m < 1) : mx m 0 = m := by unfold mx; split <;> omega
set_option maxHeartbeats 4000000 in
theorem check_from {l : List I} (hl : ∀ x ∈ l, OkI x) (hm : 1 ≤ l.length ∧ l.length ≤ 64) (maps : Int) : ∀ (d i k : Nat), i + d = l.length → 3 * d + 100 ≤ k → Says (halberdref03_Check.l0 k l maps (upto l l.length) (i : Int)) (From l maps i)
  | 0, i, k, h, hk => by
    obtain ⟨m, rfl⟩ : ∃ m, k = m + 1 := ⟨k - 1, by omega⟩
    have e : wrap64 ((l.length : Int) - 1) = (l.length : Int) - 1 := by unfold wrap64; omega
    have c1 : (0 : Int) ≤ (l.length : Int) - 1 := by omega
    have c2 : (l.length : Int) - 1 < (l.length : Int) := by omega
    have c3 : ¬ (i : Int) < (l.length : Int) := by omega
    simp only [halberdref03_Check.l0]
    rw [if_neg c3, e, if_pos c1, if_pos c2]
    exact ⟨_, rfl, ⟨fun h' => ⟨fun j hj hl' => by omega, h'⟩, fun h' => h'.2⟩⟩
  | d + 1, i, k, h, hk => by
    obtain ⟨m, rfl⟩ : ∃ m, k = m + 3 := ⟨k - 3, by omega⟩
    have ih1 := check_from hl hm maps d (i + 1) m (by omega) (by omega)
    have ih2 := check_from hl hm maps d (i + 1) (m + 1) (by omega) (by omega)
    have ih3 := check_from hl hm maps d (i + 1) (m + 2) (by omega) (by omega)
    have hi : i < l.length := by omega
    have hi0 : i ≤ 1000 := by omega
    have ho := at_ok hl hi
    have hb := i16_of ho.2.2.2.1
    have hr := rt_ref ho (m + 2) (by omega)
    have hj := (jm_both ho).2
    have hw := wide_ref (at_ l i) (at_ l (i + 1)) (m + 1) (by omega)
    have c1 : (i : Int) < (l.length : Int) := by omega
    have c2 : (0 : Int) ≤ (i : Int) := by omega
    have c3 : (i : Int) < ((upto l l.length).length : Int) := by rw [upto_length]; omega
    -- behind the look at a jump
    have jumps : ∀ n : Nat, Says (halberdref03_Check.l0 n l maps (upto l l.length) ((i + 1 : Nat) : Int)) (From l maps (i + 1)) → sec l i = false → rt (at_ l i) = true →
        ((at_ l i).f0 = 24 → gd l maps i = true) → Says (halberdref03_Check.j3 (n + 1) l maps (upto l l.length) (i : Int) (at_ l i).f0 (at_ l i).f1 (at_ l i).f2 (at_ l i).f3 (at_ l i).f4) (From l maps i) := by
      intro n ih hs hrt h24
      simp only [halberdref03_Check.j3]
      rw [hj, Option.bind_some, w_succ i hi0]
      cases hjm : jm (at_ l i) with
      | false =>
        rw [if_neg Bool.false_ne_true]
        refine says_on ?_ ih
        by_cases e24 : (at_ l i).f0 = 24
        · exact h24 e24
        · unfold gd
          rw [hs, hrt, if_neg e24, hjm]
          rfl
      | true =>
        rw [if_pos rfl]
        have e24 : ¬ (at_ l i).f0 = 24 := fun e => by rw [jm_24 e] at hjm; cases hjm
        have eg : gd l maps i = (decide (0 ≤ (at_ l i).f3) && (decide ((i : Int) + 1 + (at_ l i).f3 < l.length) && !nx l ((i : Int) + 1 + (at_ l i).f3).toNat)) := by
          unfold gd
          rw [hs, hrt, if_neg e24, if_pos hjm]
          rfl
        have ew : wrap64 (((i + 1 : Nat) : Int) + wrap64 (at_ l i).f3) = (i : Int) + 1 + (at_ l i).f3 := by
          rw [← w_succ i hi0]
          exact w_to i _ hi0 hb
        rw [ew]
        by_cases a : (at_ l i).f3 < 0
        · rw [if_pos a]
          refine says_no hi ?_
          rw [eg, decide_eq_false (by omega)]
          rfl
        · rw [if_neg a]
          by_cases b : (i : Int) + 1 + (at_ l i).f3 ≥ (l.length : Int)
          · rw [if_pos b]
            refine says_no hi ?_
            rw [eg, decide_eq_true (by omega), decide_eq_false (by omega)]
            rfl
          · rw [if_neg b]
            obtain ⟨q, hq⟩ : ∃ q : Nat, (i : Int) + 1 + (at_ l i).f3 = q := ⟨((i : Int) + 1 + (at_ l i).f3).toNat, by omega⟩
            have hq1 : q < l.length := by omega
            have c4 : (0 : Int) ≤ (q : Int) := by omega
            have c5 : (q : Int) < ((upto l l.length).length : Int) := by rw [upto_length]; omega
            have c6 : (q : Int) < (l.length : Int) := by omega
            have c7 : 0 ≤ (at_ l i).f3 := by omega
            rw [hq, if_pos c4, if_pos c5, S_get l q hq1]
            rw [hq, decide_eq_true c7, decide_eq_true c6, Int.toNat_natCast, S_nx l q hq1] at eg
            cases hs2 : sec l q with
            | true =>
              rw [if_pos rfl]
              refine says_no hi ?_
              rw [eg, hs2]
              rfl
            | false =>
              rw [if_neg Bool.false_ne_true]
              refine says_on ?_ ih
              rw [eg, hs2]
              rfl
    simp only [halberdref03_Check.l0]
    rw [if_pos c1, if_pos c2, if_pos c3, S_get l i hi, fold, w_succ i hi0]
    cases hs : sec l i with
    | true =>
      rw [if_pos rfl]
      refine says_on ?_ ih3
      unfold gd
      rw [hs]
      rfl
    | false =>
      rw [if_neg Bool.false_ne_true, hr, Option.bind_some]
      cases hrt : rt (at_ l i) with
      | false =>
        rw [if_neg Bool.false_ne_true]
        refine says_no hi ?_
        unfold gd
        rw [hs, hrt]
        rfl
      | true =>
        rw [if_pos rfl]
        by_cases e24 : (at_ l i).f0 = 24
        · rw [if_pos e24]
          have eg : gd l maps i = (nx l (i + 1) && ((at_ l i).f2 == 0 || decide (wd (at_ l i) (at_ l (i + 1)) < IntKind.u64.wrap (mx maps 0)))) := by
            unfold gd
            rw [hs, hrt, if_pos e24]
            rfl
          by_cases hlast : ((i + 1 : Nat) : Int) = (l.length : Int)
          · rw [if_pos hlast]
            simp only [halberdref03_Check.j2, if_true]
            refine says_no hi ?_
            have : nx l (i + 1) = false := by unfold nx; rw [if_neg (by omega)]
            rw [eg, this]
            rfl
          · rw [if_neg hlast]
            have hlt : i + 1 < l.length := by omega
            have c4 : (0 : Int) ≤ ((i + 1 : Nat) : Int) := by omega
            have c5 : ((i + 1 : Nat) : Int) < ((upto l l.length).length : Int) := by rw [upto_length]; omega
            have c6 : ((i + 1 : Nat) : Int) < (l.length : Int) := by omega
            rw [if_pos c4, if_pos c5, S_get l (i + 1) hlt]
            rw [S_nx l (i + 1) hlt] at eg
            simp only [halberdref03_Check.j2]
            rw [w_succ i hi0, if_pos c4, if_pos c6, fold, hw, Option.bind_some]
            cases hs2 : sec l (i + 1) with
            | false =>
              rw [if_pos (show (!false) = true from rfl)]
              refine says_no hi ?_
              rw [eg, hs2]
              rfl
            | true =>
              rw [if_neg (show ¬ ((!true) = true) by decide)]
              rw [hs2] at eg
              rcases rt_24 ho e24 hrt with f2 | f2
              · rw [if_neg (by omega)]
                exact jumps m ih1 hs hrt (fun _ => by rw [eg, f2]; rfl)
              · rw [if_pos f2]
                have f2b : ((at_ l i).f2 == 0) = false := beq_eq_false_iff_ne.mpr (by omega)
                rw [f2b] at eg
                by_cases hmp : maps < 1
                · rw [if_pos hmp]
                  refine says_no hi ?_
                  have := wd_lo (at_ l i) (at_ l (i + 1))
                  rw [eg, mx_lo hmp, decide_eq_false (by omega)]
                  rfl
                · rw [if_neg hmp]
                  rw [mx_hi hmp] at eg
                  by_cases hge : wd (at_ l i) (at_ l (i + 1)) ≥ IntKind.u64.wrap maps
                  · rw [if_pos hge]
                    refine says_no hi ?_
                    rw [eg, decide_eq_false (by omega)]
                    rfl
                  · rw [if_neg hge]
                    exact jumps m ih1 hs hrt (fun _ => by rw [eg, decide_eq_true (by omega)]; rfl)
        · rw [if_neg e24]
          exact jumps (m + 1) ih2 hs hrt (fun e => absurd e e24)
theorem ref_check {l : List I} (hl : ∀ x ∈ l, OkI x) (hm : l.length ≤ 1000) (maps : Int) (k : Nat) (hk : 3 * l.length + 110 ≤ k) : Says (halberdref03_Check.f k l maps) (AllGood l maps) := by
  obtain ⟨m, rfl⟩ : ∃ m, k = m + 1 := ⟨k - 1, by omega⟩
  unfold halberdref03_Check.f
  by_cases h0 : (l.length : Int) < 1
  · rw [if_pos h0]
    simp only [halberdref03_Check.j0, if_true]
    exact ⟨false, rfl, ⟨fun h => (by cases h), fun h => (by have := h.1; omega)⟩⟩
  · rw [if_neg h0]
    by_cases h1 : (l.length : Int) > 64
    · rw [decide_eq_true h1]
      simp only [halberdref03_Check.j0, if_true]
      exact ⟨false, rfl, ⟨fun h => (by cases h), fun h => (by have := h.2.1; omega)⟩⟩
    · rw [decide_eq_false h1]
      simp only [halberdref03_Check.j0, Bool.false_eq_true, if_false]
      rw [seconds_all hl hm m (by omega), Option.bind_some]
      obtain ⟨b, h2, h3⟩ := check_from hl (by omega) maps l.length 0 m (by omega) (by omega)
      exact ⟨b, h2, h3.trans ⟨fun h => ⟨by omega, by omega, h.2, fun j hj => h.1 j (Nat.zero_le _) hj⟩, fun h => ⟨fun j _ hj => h.2.2.2 j hj, h.2.2.1⟩⟩⟩
theorem law_from {l : List I} (hl : ∀ x ∈ l, OkI x) (hm : l.length ≤ 200) (maps : Int) : ∀ (d i k : Nat), i + d = l.length + 1 → d + 900 ≤ k → halberdlaw03_IsaChecks.l0 k l maps (upto l l.length) (i : Int) = some true
  | 0, i, k, h, hk => by
    obtain ⟨m, rfl⟩ : ∃ m, k = m + 1 := ⟨k - 1, by omega⟩
    obtain ⟨c, h1, h2, h3⟩ := isa_checkAt hl (by omega) maps m (by omega)
    obtain ⟨b, h4, h5⟩ := ref_check hl (by omega) maps m (by omega)
    have c1 : ¬ (i : Int) ≤ (l.length : Int) := by omega
    simp only [halberdlaw03_IsaChecks.l0]
    rw [if_neg c1, h1, Option.bind_some, h4, Option.bind_some]
    have e : ((c == 0) == b) = true := by
      rw [beq_iff_eq, Bool.eq_iff_iff, beq_iff_eq]
      exact h3.trans h5.symm
    rw [if_pos e, Option.bind_some, Option.bind_some]
    rcases h2 with rfl | rfl
    · rfl
    · rfl
  | d + 1, i, k, h, hk => by
    obtain ⟨m, rfl⟩ : ∃ m, k = m + 1 := ⟨k - 1, by omega⟩
    have ih := law_from hl hm maps d (i + 1) m (by omega) (by omega)
    have hs := isa_second_nx hl (by omega) i m (by omega)
    have hi0 : i ≤ 1000 := by omega
    have c1 : (i : Int) ≤ (l.length : Int) := by omega
    have c2 : (i : Int) ≥ 0 := by omega
    simp only [halberdlaw03_IsaChecks.l0]
    rw [if_pos c1, hs, Option.bind_some, if_pos c2, w_succ i hi0]
    by_cases hlt : i < l.length
    · have c3 : (i : Int) < (l.length : Int) := by omega
      have c4 : (i : Int) < ((upto l l.length).length : Int) := by rw [upto_length]; omega
      have c5 : (0 : Int) ≤ (i : Int) := by omega
      rw [if_pos c3, if_pos c5, if_pos c4, S_get l i hlt, S_nx l i hlt, bne_self_eq_false, if_neg Bool.false_ne_true]
      exact ih
    · have c3 : ¬ (i : Int) < (l.length : Int) := by omega
      have : nx l i = false := by unfold nx; rw [if_neg hlt]
      rw [if_neg c3, this, bne_self_eq_false, if_neg Bool.false_ne_true]
      exact ih
theorem law_first {l : List I} (hl : ∀ x ∈ l, OkI x) (hm : l.length ≤ 200) (maps : Int) (m : Nat) (hk : 1200 ≤ m) : halberdlaw03_IsaChecks.l0 (m + 1) l maps (upto l l.length) (-1) = some true := by
  have h := law_from hl hm maps (l.length + 1) 0 m (by omega) (by omega)
  obtain ⟨n, rfl⟩ : ∃ n, m = n + 1 := ⟨m - 1, by omega⟩
  have s : isa_Second.f (n + 1) l (-1) = some false := isa_second_out n (-1) (Or.inl (by omega))
  have e : wrap64 (-1 + 1) = ((0 : Nat) : Int) := by unfold wrap64; omega
  have c1 : (-1 : Int) ≤ (l.length : Int) := by omega
  rw [halberdlaw03_IsaChecks.l0]
  rw [if_pos c1, s, Option.bind_some, if_neg (by omega), bne_self_eq_false, if_neg Bool.false_ne_true, e]
  exact h
theorem IsaChecks : halberdlaw03_IsaChecks.Pure := by
  intro l maps hl _
  refine ⟨2001, ?_⟩
  unfold halberdlaw03_IsaChecks.f
  rw [show halberdlaw03_alive.f 2001 = some true from isa_alive 1981, Option.bind_some, if_pos rfl]
  by_cases h200 : (l.length : Int) > 200
  · rw [if_pos h200]
  · rw [if_neg h200, seconds_all hl.2.2 (by omega) 2001 (by omega), Option.bind_some]
    exact law_first hl.2.2 (by omega) maps 2000 (by omega)
end Go.Proofs.Ytkbngkhajkhfgaa.Pure
