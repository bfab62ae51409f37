/- Whether any instruction is right, of how many bytes its opcode is, and whether it is a jump, is the document's; for every instruction. -/
import Derived.Test.YtkbngkhajkhfgaaPIsaRightx7
import Derived.Test.YtkbngkhajkhfgaaHB
set_option linter.unusedVariables false
set_option linter.unusedSimpArgs false
namespace Go.Proofs.Ytkbngkhajkhfgaa.Pure
open Go.RowKit Go.Proofs.Ytkbngkhajkhfgaa.PIsaRight Go.Proofs.YtkbngkhajkhfgaaW.PrintWords Go.Proofs.YtkbngkhajkhfgaaW.PrintLast Go.Proofs.YtkbngkhajkhfgaaW.PrintMore Go.Proofs.Ytkbngkhajkhfgaa.HB

theorem u8_of {a : Int} (h : (Lit.int .u8 a).wf = true) : 0 ≤ a ∧ a < 256 := by
  have := bounds_u8 h
  omega
/-- A register's number, as far as it is looked at. -/
def cl (d : Int) : Int := if d ≤ 0 then 0 else if d ≤ 1 then 1 else if d ≤ 9 then 9 else if d ≤ 10 then 10 else 11
def zr (x : Int) : Int := if x = 0 then 0 else 1
theorem cl_le9 (d : Int) : (cl d ≤ 9) = (d ≤ 9) := by unfold cl; apply propext; repeat' split <;> omega
theorem cl_gt9 (d : Int) : (cl d > 9) = (d > 9) := by unfold cl; apply propext; repeat' split <;> omega
theorem cl_le10 (d : Int) : (cl d ≤ 10) = (d ≤ 10) := by unfold cl; apply propext; repeat' split <;> omega
theorem cl_le1 (d : Int) : (cl d ≤ 1) = (d ≤ 1) := by unfold cl; apply propext; repeat' split <;> omega
theorem cl_0 {d : Int} (h : 0 ≤ d) : (cl d = 0) = (d = 0) := by unfold cl; apply propext; repeat' split <;> omega
theorem cl_b {d : Int} (h : 0 ≤ d) : (cl d == 0) = (d == 0) := by
  rw [Bool.eq_iff_iff, beq_iff_eq, beq_iff_eq, cl_0 h]
theorem zr_0 (x : Int) : (zr x = 0) = (x = 0) := by unfold zr; apply propext; split <;> omega
theorem zr_b (x : Int) : (zr x == 0) = (x == 0) := by
  rw [Bool.eq_iff_iff, beq_iff_eq, beq_iff_eq, zr_0]
theorem zr_n (x : Int) : (zr x != 0) = (x != 0) := by
  unfold bne
  rw [zr_b]
theorem cl_mem {d : Int} (h : 0 ≤ d) : ∃ j : Fin 5, cl d = [0, 1, 9, 10, 11].getD j.val (0 : Int) := by
  unfold cl
  repeat' split
  · exact ⟨0, rfl⟩
  · exact ⟨1, rfl⟩
  · exact ⟨2, rfl⟩
  · exact ⟨3, rfl⟩
  · exact ⟨4, rfl⟩
theorem zr_mem (x : Int) : ∃ j : Fin 2, zr x = [0, 1].getD j.val (0 : Int) := by
  unfold zr
  split
  · exact ⟨0, rfl⟩
  · exact ⟨1, rfl⟩
theorem ref_cl (op dst src off imm : Int) (h1 : 0 ≤ dst) (h2 : 0 ≤ src) : halberdref03_Right.f 10 op (cl dst) (cl src) (zr off) (zr imm) = halberdref03_Right.f 10 op dst src off imm := by
  simp only [halberdref03_Right.f, halberdref03_Right.j0, halberdref03_Right.j1, cl_le9, cl_gt9, cl_le10, cl_le1, cl_0 h1, cl_0 h2, cl_b h1, cl_b h2, zr_0, zr_b, zr_n]
/-- What a number's register is held against. -/
def lim (m : Int) : Bool := m == 0 || (m == 1 || (m == 9 || m == 10))
theorem cl_lim {d m : Int} (hm : lim m = true) (h : 0 ≤ d) : (cl d ≤ m) = (d ≤ m) := by
  simp only [lim, Bool.or_eq_true, beq_iff_eq] at hm
  rcases hm with rfl | rfl | rfl | rfl
  · unfold cl; apply propext; repeat' split <;> omega
  · exact cl_le1 d
  · exact cl_le9 d
  · exact cl_le10 d
def shapeOk (r : Option (Int × Int × Bool × Bool × Bool)) : Bool := match r with
  | some t => lim t.1 && lim t.2.1
  | none => false
theorem shape_ok : ∀ op : Fin 256, shapeOk (isa_shapeOf.f 10 (op.val : Int)) = true := by decide +kernel
theorem right_cl (op dst src off imm : Int) (ho : 0 ≤ op ∧ op < 256) (h1 : 0 ≤ dst) (h2 : 0 ≤ src) : isa_Right.f 10 op (cl dst) (cl src) (zr off) (zr imm) = isa_Right.f 10 op dst src off imm := by
  obtain ⟨n, rfl⟩ : ∃ n : Nat, op = n := ⟨op.toNat, by omega⟩
  have hs := shape_ok ⟨n, by omega⟩
  simp only at hs
  unfold isa_Right.f
  cases hq : isa_shapeOf.f 10 (n : Int) with
  | none => rw [hq] at hs; exact absurd hs (by decide)
  | some t =>
    rw [hq] at hs
    simp only [shapeOk, Bool.and_eq_true] at hs
    simp only [Option.bind_some, cl_lim hs.1 h1, cl_lim hs.2 h2, zr_0, zr_b]
def bothSay (a b : Option Bool) : Bool := match a, b with
  | some x, some y => x == y
  | _, _ => false
theorem bothSay_of {a b : Option Bool} (h : bothSay a b = true) : ∃ x, a = some x ∧ b = some x := by
  unfold bothSay at h
  split at h
  · exact ⟨_, rfl, by rw [beq_iff_eq.1 h]⟩
  · cases h
theorem right_all : ∀ op : Fin 256, ∀ d s : Fin 5, ∀ o i : Fin 2, bothSay (isa_Right.f 10 (op.val : Int) ([0, 1, 9, 10, 11].getD d.val 0) ([0, 1, 9, 10, 11].getD s.val 0) ([0, 1].getD o.val 0) ([0, 1].getD i.val 0)) (halberdref03_Right.f 10 (op.val : Int) ([0, 1, 9, 10, 11].getD d.val 0) ([0, 1, 9, 10, 11].getD s.val 0) ([0, 1].getD o.val 0) ([0, 1].getD i.val 0)) = true := by decide +kernel
/-- Whether an instruction is right is the document's. -/
theorem right_both (op dst src off imm : Int) (ho : 0 ≤ op ∧ op < 256) (h1 : 0 ≤ dst) (h2 : 0 ≤ src) : ∃ b, isa_Right.f 10 op dst src off imm = some b ∧ halberdref03_Right.f 10 op dst src off imm = some b := by
  rw [← right_cl op dst src off imm ho h1 h2, ← ref_cl op dst src off imm h1 h2]
  obtain ⟨n, rfl⟩ : ∃ n : Nat, op = n := ⟨op.toNat, by omega⟩
  obtain ⟨d, hd⟩ := cl_mem h1
  obtain ⟨s, hs⟩ := cl_mem h2
  obtain ⟨o, ho'⟩ := zr_mem off
  obtain ⟨i, hi⟩ := zr_mem imm
  rw [hd, hs, ho', hi]
  exact bothSay_of (right_all ⟨n, by omega⟩ d s o i)
theorem jump_all : ∀ op : Fin 256, bothSay (isa_IsJump.f (op.val : Int) 0 0 0 0) (halberdref03_Jump.f (op.val : Int) 0 0 0 0) = true := by decide +kernel
theorem jump_both (op a b c d : Int) (ho : 0 ≤ op ∧ op < 256) : ∃ x, isa_IsJump.f op a b c d = some x ∧ halberdref03_Jump.f op a b c d = some x := by
  obtain ⟨n, rfl⟩ : ∃ n : Nat, op = n := ⟨op.toNat, by omega⟩
  exact bothSay_of (jump_all ⟨n, by omega⟩)
def bothNum (a b : Option Int) : Bool := match a, b with
  | some x, some y => x == y
  | _, _ => false
theorem bothNum_of {a b : Option Int} (h : bothNum a b = true) : ∃ x, a = some x ∧ b = some x := by
  unfold bothNum at h
  split at h
  · exact ⟨_, rfl, by rw [beq_iff_eq.1 h]⟩
  · cases h
theorem size_all : ∀ op : Fin 256, bothNum (isa_Size.f (op.val : Int)) (halberdref03_Size.f 10 (op.val : Int)) = true := by decide +kernel
theorem size_both (op : Int) (ho : 0 ≤ op ∧ op < 256) : ∃ x, isa_Size.f op = some x ∧ halberdref03_Size.f 10 op = some x := by
  obtain ⟨n, rfl⟩ : ∃ n : Nat, op = n := ⟨op.toNat, by omega⟩
  exact bothNum_of (size_all ⟨n, by omega⟩)
theorem isa_alive : halberdlaw03_alive.f 10 = some true := by kernel_rfl
theorem IsaRight : halberdlaw03_IsaRight.Pure := by
  intro op dst src off imm h
  have b0 := u8_of h.1
  have b1 := u8_of h.2.1
  have b2 := u8_of h.2.2.1
  obtain ⟨r, r1, r2⟩ := right_both op dst src off imm b0 b1.1 b2.1
  obtain ⟨s, s1, s2⟩ := size_both op b0
  obtain ⟨j, j1, j2⟩ := jump_both op dst src off imm b0
  refine ⟨10, ?_⟩
  unfold halberdlaw03_IsaRight.f
  rw [isa_alive]
  simp only [Option.bind_some, if_true, r1, r2, s1, s2, bne_self_eq_false, Bool.false_eq_true, if_false]
  simp only [halberdlaw03_IsaRight.j0, Bool.false_eq_true, if_false, j1, j2, Option.bind_some, beq_self_eq_true]
end Go.Proofs.Ytkbngkhajkhfgaa.Pure
