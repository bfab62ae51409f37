/- The number of any two instructions is the document's, and that of a pair the one that it was made of: for all instructions and numbers. -/
import Derived.Test.YtjpjcmokffjnaaaPInstWidex2
import Derived.Test.YtjpjcmokffjnaaaTB
set_option linter.unusedVariables false
set_option linter.unusedSimpArgs false
namespace Go.Proofs.Ytjpjcmokffjnaaa.Pure
open Go.RowKit Go.Proofs.Ytjpjcmokffjnaaa.PInstWide Go.Proofs.YtjpjcmokffjnaaaW.PrintWords Go.Proofs.YtjpjcmokffjnaaaW.PrintLast Go.Proofs.YtjpjcmokffjnaaaW.PrintMore Go.Proofs.Ytjpjcmokffjnaaa.HB Go.Proofs.Ytjpjcmokffjnaaa.TB

theorem iw_alive : halberdlaw02_alive.f 300 = some true := by kernel_rfl
theorem iw_or {a b : Int} (ha : 0 ≤ a ∧ a < 4294967296) (hb : 0 ≤ b ∧ b < 4294967296) : Go.bits .or .u64 a (b * 4294967296) = a + b * 4294967296 := by
  obtain ⟨a, rfl⟩ : ∃ n : Nat, a = n := ⟨a.toNat, by omega⟩
  obtain ⟨b, rfl⟩ : ∃ n : Nat, b = n := ⟨b.toNat, by omega⟩
  have e : ((b : Int) * 4294967296) = ((2 ^ 32 * b : Nat) : Int) := by
    have : (2 : Nat) ^ 32 = 4294967296 := rfl
    rw [this]; omega
  have h := Nat.two_pow_add_eq_or_of_lt (i := 32) (b := a) (by omega) b
  rw [e]
  have hU1 : ((a : Nat) : Int) = U (BitVec.ofNat 64 a) := by
    unfold U; rw [BitVec.toNat_ofNat, Nat.mod_eq_of_lt (by omega)]
  have hU2 : ((2 ^ 32 * b : Nat) : Int) = U (BitVec.ofNat 64 (2 ^ 32 * b)) := by
    unfold U; rw [BitVec.toNat_ofNat, Nat.mod_eq_of_lt (by omega)]
  rw [hU1, hU2, U_or]
  unfold U
  rw [BitVec.toNat_or, BitVec.toNat_ofNat, BitVec.toNat_ofNat, Nat.mod_eq_of_lt (by omega), Nat.mod_eq_of_lt (by omega), Nat.or_comm, ← h]
  omega
theorem iw_zext (x : Int) : halberdref01_Zext.f 300 x 4 = some (Int.tmod x 4294967296) := by kernel_rfl
theorem InstWide : halberdlaw02_InstWide.Pure := by
  intro a0 a1 a2 a3 a4 b0 b1 b2 b3 b4 x op dst src h1 h2 h3 h4 h5 h6
  refine ⟨300, ?_⟩
  have g := u64_of h3
  unfold halberdlaw02_InstWide.f
  refine ask_ iw_alive ?_
  have e1 : inst_Wide.f a0 a1 a2 a3 a4 b0 b1 b2 b3 b4 = some (a4 % 4294967296 + b4 % 4294967296 * 4294967296) := by
    unfold inst_Wide.f
    rw [iw_or (by omega) (by omega)]
  have e2 : halberdref02_Wide.f 300 a0 a1 a2 a3 a4 b0 b1 b2 b3 b4 = some (a4 % 4294967296 + b4 % 4294967296 * 4294967296) := by
    unfold halberdref02_Wide.f
    rw [iw_zext, Option.bind_some, iw_zext, Option.bind_some]
    have k1 : Int.tmod (IntKind.u64.wrap (IntKind.i64.wrap a4)) 4294967296 = a4 % 4294967296 := by
      rw [IntKind.wrap_u64, IntKind.wrap_i64, Int.tmod_eq_emod_of_nonneg (by omega)]; omega
    have k2 : Int.tmod (IntKind.u64.wrap (IntKind.i64.wrap b4)) 4294967296 = b4 % 4294967296 := by
      rw [IntKind.wrap_u64, IntKind.wrap_i64, Int.tmod_eq_emod_of_nonneg (by omega)]; omega
    rw [k1, k2]
    congr 1
    rw [IntKind.wrap_u64, IntKind.wrap_u64]
    omega
  have e3 : inst_Wide.f op dst src 0 (wrap32 x) 0 0 0 0 (wrap32 (shr .u64 x 32)) = some x := by
    unfold inst_Wide.f
    have s : shr .u64 x 32 = x / 4294967296 := by
      unfold shr
      have e : min (32 : Int).toNat IntKind.u64.bits = 32 := rfl
      rw [e]; rfl
    rw [s, iw_or (by omega) (by omega)]
    congr 1
    unfold wrap32
    omega
  rw [e1, Option.bind_some, e2, Option.bind_some, e3, Option.bind_some, if_pos rfl, if_pos rfl]

end Go.Proofs.Ytjpjcmokffjnaaa.Pure
