/- Of numbers that patterns have, the results of sums, differences, and the rest are numbers that the pattern told of has: for all patterns and numbers. -/
import Derived.Test.YteckjmejngieeaaPTnumSoundx4
import Derived.Test.YteckjmejngieeaaTB
set_option linter.unusedVariables false
set_option linter.unusedSimpArgs false
namespace Go.Proofs.Yteckjmejngieeaa.Pure
open Go.RowKit Go.Proofs.Yteckjmejngieeaa.PTnumSound Go.Proofs.YteckjmejngieeaaW.PrintWords Go.Proofs.YteckjmejngieeaaW.PrintLast Go.Proofs.YteckjmejngieeaaW.PrintMore Go.Proofs.Yteckjmejngieeaa.HB Go.Proofs.Yteckjmejngieeaa.TB

theorem t_alive : halberdlaw06_alive.f = some true := by decide +kernel
theorem t_right (v m : W) : tnum_right.f (U v) (U m) = some (U (lo v m), U m) := by
  unfold tnum_right.f lo
  rw [U_andNot]
theorem t_has (v m x : W) : tnum_Has.f (U v) (U m) (U x) = some (decide (Has v m x)) := by
  unfold tnum_Has.f
  rw [t_right]
  simp only [Option.bind_some, U_andNot]
  congr 1
  rw [Bool.eq_iff_iff]
  simp only [beq_iff_eq, U_inj, decide_eq_true_eq]
  rfl
theorem t_has_yes {v m x : W} (h : Has v m x) : tnum_Has.f (U v) (U m) (U x) = some true := by
  rw [t_has, decide_eq_true h]
theorem t_add (va ma vb mb : W) : tnum_Add.f (U va) (U ma) (U vb) (U mb) = some (U (lo (lo va ma + lo vb mb) (addMask va ma vb mb)), U (addMask va ma vb mb)) := by
  unfold tnum_Add.f
  simp only [t_right, Option.bind_some, U_add, U_xor, U_or]
  rfl
theorem t_sub (va ma vb mb : W) : tnum_Sub.f (U va) (U ma) (U vb) (U mb) = some (U (lo (lo va ma - lo vb mb) (subMask va ma vb mb)), U (subMask va ma vb mb)) := by
  unfold tnum_Sub.f
  simp only [t_right, Option.bind_some, U_sub, U_add, U_xor, U_or]
  rfl
theorem t_and (va ma vb mb : W) : tnum_And.f (U va) (U ma) (U vb) (U mb) = some (U (lo va ma &&& lo vb mb), U (((lo va ma ||| ma) &&& (lo vb mb ||| mb)) &&& ~~~(lo va ma &&& lo vb mb))) := by
  unfold tnum_And.f
  simp only [t_right, Option.bind_some, U_and, U_or, U_andNot]
theorem t_or (va ma vb mb : W) : tnum_Or.f (U va) (U ma) (U vb) (U mb) = some (U (lo va ma ||| lo vb mb), U ((ma ||| mb) &&& ~~~(lo va ma ||| lo vb mb))) := by
  unfold tnum_Or.f
  simp only [t_right, Option.bind_some, U_and, U_or, U_andNot]
theorem t_xor (va ma vb mb : W) : tnum_Xor.f (U va) (U ma) (U vb) (U mb) = some (U (lo (lo va ma ^^^ lo vb mb) (ma ||| mb)), U (ma ||| mb)) := by
  unfold tnum_Xor.f
  simp only [t_right, Option.bind_some, U_xor, U_or]
theorem t_mod (n : W) : 0 ≤ Int.tmod (U n) 64 ∧ Int.tmod (U n) 64 < 64 := by
  rw [Int.tmod_eq_emod_of_nonneg (U_lo n)]; omega
theorem t_lsh (v m n : W) : tnum_Lsh.f (U v) (U m) (U n) = some (U (lo v m <<< (Int.tmod (U n) 64).toNat), U (m <<< (Int.tmod (U n) 64).toNat)) := by
  unfold tnum_Lsh.f
  have h := t_mod n
  simp only [t_right, Option.bind_some]
  rw [if_pos h.1, U_shl _ _ h.1 h.2, U_shl _ _ h.1 h.2]
theorem t_rsh (v m n : W) : tnum_Rsh.f (U v) (U m) (U n) = some (U (lo v m >>> (Int.tmod (U n) 64).toNat), U (m >>> (Int.tmod (U n) 64).toNat)) := by
  unfold tnum_Rsh.f
  have h := t_mod n
  simp only [t_right, Option.bind_some]
  rw [if_pos h.1, U_shr _ _ h.1 h.2, U_shr _ _ h.1 h.2]
theorem t_arsh (v m n : W) : tnum_Arsh.f (U v) (U m) (U n) = some (U ((lo v m).sshiftRight (Int.tmod (U n) 64).toNat), U (m.sshiftRight (Int.tmod (U n) 64).toNat)) := by
  unfold tnum_Arsh.f
  have h := t_mod n
  simp only [t_right, Option.bind_some]
  rw [if_pos h.1, U_sshr _ _ h.1 h.2, U_sshr _ _ h.1 h.2]
theorem t_zext4 (x : W) : words_Zext.f (U x) 4 = some (U (x &&& 4294967295#64)) := by
  have e : words_Zext.f (U x) 4 = some (Go.bits .and .u64 (U x) (U 4294967295#64)) := by kernel_rfl
  rw [e, U_and]
theorem t_cut4 (v m : W) : tnum_Cut.f (U v) (U m) 4 = some (U (lo v m &&& 4294967295#64), U (m &&& 4294967295#64)) := by
  unfold tnum_Cut.f
  simp only [t_right, Option.bind_some, t_zext4]
theorem t_low4 (x : W) : Int.tmod (U x) 4294967296 = U (x &&& 4294967295#64) := by
  rw [← U_and, Int.tmod_eq_emod_of_nonneg (U_lo x)]
  exact (and_mask (U x) 32 4294967295 (by decide) (by decide) (U_lo x) (U_hi x)).symm

theorem has_at {v m x : W} {X : Int} (h : Has v m x) (e : X = U x) : tnum_Has.f (U v) (U m) X = some true := by
  rw [e]; exact t_has_yes h

theorem TnumSound : halberdlaw06_TnumSound.Pure := by
  intro va ma vb mb x0 y0 n0 h1 h2 h3 h4 h5
  obtain ⟨va, rfl⟩ := U_wf h1.1
  obtain ⟨ma, rfl⟩ := U_wf h1.2
  obtain ⟨vb, rfl⟩ := U_wf h2.1
  obtain ⟨mb, rfl⟩ := U_wf h2.2
  obtain ⟨x0, rfl⟩ := U_wf h3
  obtain ⟨y0, rfl⟩ := U_wf h4
  obtain ⟨n, rfl⟩ := U_wf h5
  clear h1 h2 h3 h4 h5
  obtain ⟨x, ex, hx⟩ : ∃ x, Go.bits .or .u64 (Go.bits .and .u64 (U x0) (U ma)) (Go.bits .andNot .u64 (U va) (U ma)) = U x ∧ Has va ma x := by
    refine ⟨_, by rw [U_and, U_andNot, U_or], has_of fun i h => ?_⟩
    simp only [BitVec.getLsbD_or, BitVec.getLsbD_and, BitVec.getLsbD_not, h, decide_true, Bool.true_and]
    cases x0.getLsbD i <;> cases ma.getLsbD i <;> cases va.getLsbD i <;> rfl
  obtain ⟨y, ey, hy⟩ : ∃ y, Go.bits .or .u64 (Go.bits .and .u64 (U y0) (U mb)) (Go.bits .andNot .u64 (U vb) (U mb)) = U y ∧ Has vb mb y := by
    refine ⟨_, by rw [U_and, U_andNot, U_or], has_of fun i h => ?_⟩
    simp only [BitVec.getLsbD_or, BitVec.getLsbD_and, BitVec.getLsbD_not, h, decide_true, Bool.true_and]
    cases y0.getLsbD i <;> cases mb.getLsbD i <;> cases vb.getLsbD i <;> rfl
  unfold halberdlaw06_TnumSound.f
  rw [ex, ey]
  have hn := t_mod n
  refine ask_ t_alive ?_
  refine ask_ (t_has_yes hx) ?_
  refine ask_ (t_has_yes hy) ?_
  refine have_ (t_add va ma vb mb) ?_
  refine ask_ (has_at ((has_lo_iff _ _ _).2 (add_has hx hy)) (U_add x y)) ?_
  refine have_ (t_sub va ma vb mb) ?_
  refine ask_ (has_at ((has_lo_iff _ _ _).2 (sub_has hx hy)) (U_sub x y)) ?_
  refine have_ (t_and va ma vb mb) ?_
  refine ask_ (has_at (and_has hx hy) (U_and x y)) ?_
  refine have_ (t_or va ma vb mb) ?_
  refine ask_ (has_at (or_has hx hy) (U_or x y)) ?_
  refine have_ (t_xor va ma vb mb) ?_
  refine ask_ (has_at ((has_lo_iff _ _ _).2 (xor_has hx hy)) (U_xor x y)) ?_
  refine have_ (t_lsh va ma n) ?_
  refine (if_pos hn.1).trans ?_
  refine ask_ (has_at (lsh_has hx _) (U_shl _ _ hn.1 hn.2)) ?_
  refine have_ (t_rsh va ma n) ?_
  refine ask_ (has_at (rsh_has hx _) (U_shr _ _ hn.1 hn.2)) ?_
  refine have_ (t_arsh va ma n) ?_
  refine ask_ (has_at (arsh_has hx _) (U_sshr _ _ hn.1 hn.2)) ?_
  refine have_ (t_cut4 va ma) ?_
  refine have_ (has_at (cut_has hx) (t_low4 x)) ?_
  rfl

end Go.Proofs.Yteckjmejngieeaa.Pure
