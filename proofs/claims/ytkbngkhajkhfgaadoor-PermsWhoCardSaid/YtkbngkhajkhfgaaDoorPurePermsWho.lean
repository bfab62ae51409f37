/- Who may what of whom is the document's, and the uid 0 may all: for all inodes and uids. -/
import Derived.Test.YtkbngkhajkhfgaaDoorPPermsWhox2
import Derived.Test.YtkbngkhajkhfgaaDoorTB
import Derived.Lib.ItoaNum
set_option linter.unusedVariables false
set_option linter.unusedSimpArgs false
namespace Go.Proofs.YtkbngkhajkhfgaaDoor.Pure
open Go.RowKit Go.Proofs.YtkbngkhajkhfgaaDoor.PPermsWho Go.Proofs.YtkbngkhajkhfgaaDoorW.PrintWords Go.Proofs.YtkbngkhajkhfgaaDoorW.PrintLast Go.Proofs.YtkbngkhajkhfgaaDoorW.PrintMore Go.Proofs.YtkbngkhajkhfgaaDoor.HB Go.Proofs.YtkbngkhajkhfgaaDoor.TB

theorem p_itoa {i : Nat} (h : i < 10) : Lib.itoa (i : Int) = [UInt8.ofNat (48 + i)] := by
  unfold Lib.itoa
  rw [if_neg (by omega), Int.toNat_natCast, Lib.decDigits_one h]
theorem p_stat : perms_Stat.f 2 0 1 0 0 0 0 (⟨#[97, 98, 99]⟩ : ByteArray) ([] : List ByteArray) ([] : List Int) 0 = some ⟨#[50, 32, 49, 32, 48, 32, 48, 32, 48, 32, 48, 32, 51]⟩ := by
  unfold perms_Stat.f
  have hsz : (if (1 : Int) = 2 then ((([] : List ByteArray).length : Nat) : Int) else (((⟨#[97, 98, 99]⟩ : ByteArray).size : Nat) : Int)) = 3 := rfl
  rw [hsz, if_pos (by decide)]
  unfold stat_s
  have h0 : Lib.itoa 0 = [48] := p_itoa (i := 0) (by decide)
  have h1 : Lib.itoa 1 = [49] := p_itoa (i := 1) (by decide)
  have h2 : Lib.itoa 2 = [50] := p_itoa (i := 2) (by decide)
  have h3 : Lib.itoa 3 = [51] := p_itoa (i := 3) (by decide)
  simp only [List.map_cons, List.map_nil, h0, h1, h2, h3]
  rfl
theorem p_alive (k : Nat) (h1 : perms_Flags.f k 3 = some (6, true)) (h2 : perms_Flags.f k 4 = some (0, false)) (h3 : perms_Prot.f k 2 true false = some false) : halberdlaw23_alive.f k = some true := by
  unfold halberdlaw23_alive.f
  refine have_ h1 (have_ h2 ?_)
  refine yes_ rfl (yes_ rfl ?_)
  refine no_ (by decide) ?_
  refine have_ h3 ?_
  refine no_ (by decide) ?_
  refine have_ (v := true) (by unfold perms_Prot.f; rfl) ?_
  refine yes_ rfl ?_
  exact have_ p_stat (by decide +kernel)
theorem and_pow_nat (N i : Nat) : N &&& 2 ^ i = if N / 2 ^ i % 2 = 1 then 2 ^ i else 0 := by
  apply Nat.eq_of_testBit_eq
  intro j
  rw [Nat.testBit_and, Nat.testBit_two_pow]
  by_cases h : i = j
  · subst h
    rw [Nat.testBit_eq_decide_div_mod_eq]
    split <;> simp_all [Nat.testBit_two_pow]
  · split <;> simp [h, Nat.testBit_two_pow]
theorem ofInt_small (q : Nat) (h : q < 9223372036854775808) : (BitVec.ofInt 64 (q : Int)).toNat = q := by
  rw [BitVec.toNat_ofInt]
  have : ((2 ^ 64 : Nat) : Int) = 18446744073709551616 := by decide
  rw [this]
  omega
theorem wrap_small (q : Nat) (h : q < 9223372036854775808) : IntKind.i64.wrap (q : Int) = q := by
  rw [IntKind.wrap_i64]
  omega
theorem and_pow (x : Int) (i : Nat) (hi : i < 63) : Go.bits .and .i64 x ((2 ^ i : Nat) : Int) = if ((x % 18446744073709551616).toNat / 2 ^ i) % 2 = 1 then ((2 ^ i : Nat) : Int) else 0 := by
  have hp : 2 ^ i < 2 ^ 63 := Nat.pow_lt_pow_right (by decide) hi
  have hp63 : (2 : Nat) ^ 63 = 9223372036854775808 := by decide
  rw [hp63] at hp
  have e2 := ofInt_small _ hp
  have key : (BitVec.ofInt 64 x &&& BitVec.ofInt 64 ((2 ^ i : Nat) : Int)).toNat = if ((x % 18446744073709551616).toNat / 2 ^ i) % 2 = 1 then 2 ^ i else 0 := by
    rw [BitVec.toNat_and, e2, and_pow_nat, BitVec.toNat_ofInt]
    have : ((2 ^ 64 : Nat) : Int) = 18446744073709551616 := by decide
    rw [this]
  show IntKind.i64.wrap ((BitVec.ofInt 64 x &&& BitVec.ofInt 64 ((2 ^ i : Nat) : Int)).toNat : Nat) = _
  rw [key]
  split
  · exact wrap_small _ hp
  · rfl
theorem and_one (x : Int) : Go.bits .and .i64 x 1 = x % 2 := by
  have h := and_pow x 0 (by decide)
  have e : ((2 ^ 0 : Nat) : Int) = 1 := rfl
  rw [e] at h
  rw [h]
  simp only [Nat.pow_zero, Nat.div_one]
  split <;> omega
theorem PermsWho : halberdlaw23_PermsWho.Pure := by
  intro a b c d e f g s n m u a1 a2 a3 a4 _ _ _ _ _
  refine ⟨10, ?_⟩
  unfold halberdlaw23_PermsWho.f
  refine ask_ (p_alive 10 (by decide +kernel) (by decide +kernel) (by decide +kernel)) ?_
  have fin : halberdlaw23_PermsWho.j0 10 a2 a3 a4 false a b c d e f g s n m u = some true := by
    simp [halberdlaw23_PermsWho.j0, perms_Owner.f, perms_Signal.f, perms_Setid.f]
  by_cases h : a1 = 0
  · subst h
    simp [perms_Owner.f, perms_Signal.f, perms_Setid.f, fin]
  · simp [perms_Owner.f, perms_Signal.f, perms_Setid.f, h, fin]

end Go.Proofs.YtkbngkhajkhfgaaDoor.Pure
