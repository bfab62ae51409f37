/- Whole numbers of 64 bits as bit vectors, for the plain laws of this seat; no conditions. -/
import Derived.Laws.BitsAllLaws
import Derived.OpenShut
import Derived.Test.YtgkdbhkbkpfbpaaWMore
import Derived.Test.YtgkdbhkbkpfbpaaHB
set_option linter.unusedVariables false
set_option linter.unusedSimpArgs false
namespace Go.Proofs.Ytgkdbhkbkpfbpaa.HB
open Go.RowKit Go.Proofs.YtgkdbhkbkpfbpaaW.PrintWords Go.Proofs.YtgkdbhkbkpfbpaaW.PrintLast Go.Proofs.YtgkdbhkbkpfbpaaW.PrintMore

/-- A bit vector as the whole number without sign. -/
def U (b : BitVec 64) : Int := (b.toNat : Int)
theorem U_lo (b : BitVec 64) : 0 ≤ U b := by unfold U; omega
theorem U_hi (b : BitVec 64) : U b < 18446744073709551616 := by unfold U; have := b.isLt; omega
theorem U_inj {a b : BitVec 64} : U a = U b ↔ a = b := by
  unfold U
  constructor
  · intro h; exact BitVec.eq_of_toNat_eq (by omega)
  · rintro rfl; rfl
theorem U_of {x : Int} (h0 : 0 ≤ x) (h1 : x < 18446744073709551616) : ∃ b, x = U b := by
  refine ⟨BitVec.ofNat 64 x.toNat, ?_⟩
  unfold U
  rw [BitVec.toNat_ofNat]
  omega
theorem U_wf {x : Int} (h : (Lit.int .u64 x).wf = true) : ∃ b, x = U b := U_of (u64_of h).1 (u64_of h).2
theorem U_and (a b : BitVec 64) : bits .and .u64 (U a) (U b) = U (a &&& b) := by
  unfold U; rw [u64_and_nat _ _ a.isLt b.isLt, BitVec.toNat_and]
theorem U_or (a b : BitVec 64) : bits .or .u64 (U a) (U b) = U (a ||| b) := by
  unfold U; rw [u64_or_nat _ _ a.isLt b.isLt, BitVec.toNat_or]
theorem U_xor (a b : BitVec 64) : bits .xor .u64 (U a) (U b) = U (a ^^^ b) := by
  unfold U; rw [u64_xor_nat _ _ a.isLt b.isLt, BitVec.toNat_xor]
theorem U_andNot (a b : BitVec 64) : bits .andNot .u64 (U a) (U b) = U (a &&& ~~~b) := by
  unfold U
  rw [u64_andNot_nat _ _ a.isLt b.isLt, BitVec.toNat_and, BitVec.toNat_not]
theorem U_add (a b : BitVec 64) : IntKind.u64.wrap (U a + U b) = U (a + b) := by
  unfold U; rw [IntKind.wrap_u64, BitVec.toNat_add]; omega
theorem U_sub (a b : BitVec 64) : IntKind.u64.wrap (U a - U b) = U (a - b) := by
  unfold U; rw [IntKind.wrap_u64, BitVec.toNat_sub]; have := a.isLt; have := b.isLt; omega
theorem U_wrap (a : BitVec 64) : IntKind.u64.wrap (U a) = U a := by
  rw [IntKind.wrap_u64]; have := U_lo a; have := U_hi a; omega
theorem U_shl (a : BitVec 64) (n : Int) (h0 : 0 ≤ n) (h1 : n < 64) : shl .u64 (U a) n = U (a <<< n.toNat) := by
  unfold shl U
  have e : min n.toNat IntKind.u64.bits = n.toNat := by
    have : IntKind.u64.bits = 64 := rfl
    rw [this]; omega
  rw [e, IntKind.wrap_u64, BitVec.toNat_shiftLeft, Nat.shiftLeft_eq]
  simp
theorem U_shr (a : BitVec 64) (n : Int) (h0 : 0 ≤ n) (h1 : n < 64) : shr .u64 (U a) n = U (a >>> n.toNat) := by
  unfold shr U
  have e : min n.toNat IntKind.u64.bits = n.toNat := by
    have : IntKind.u64.bits = 64 := rfl
    rw [this]; omega
  rw [e, BitVec.toNat_ushiftRight, Nat.shiftRight_eq_div_pow]
  simp
theorem wrap64_U (a : BitVec 64) : wrap64 (U a) = a.toInt := by
  unfold wrap64 U
  rw [BitVec.toInt_eq_toNat_cond]
  have := a.isLt
  split <;> omega
theorem wrap_toInt (a : BitVec 64) : IntKind.u64.wrap a.toInt = U a := by
  unfold U
  rw [IntKind.wrap_u64, BitVec.toInt_eq_toNat_cond]
  have := a.isLt
  split <;> omega
theorem U_sshr (a : BitVec 64) (n : Int) (h0 : 0 ≤ n) (h1 : n < 64) : IntKind.u64.wrap (shr .i64 (wrap64 (U a)) n) = U (a.sshiftRight n.toNat) := by
  rw [wrap64_U, ← wrap_toInt, BitVec.toInt_sshiftRight]
  unfold shr
  have e : min n.toNat IntKind.i64.bits = n.toNat := by
    have : IntKind.i64.bits = 64 := rfl
    rw [this]; omega
  rw [e, Int.shiftRight_eq_div_pow]
  simp
theorem U_zero : (0 : Int) = U 0#64 := rfl
theorem U_ones : (18446744073709551615 : Int) = U (BitVec.allOnes 64) := by decide
theorem U_le {a b : BitVec 64} : U a ≤ U b ↔ a ≤ b := by
  unfold U; rw [BitVec.le_def]; omega
theorem U_lt {a b : BitVec 64} : U a < U b ↔ a < b := by
  unfold U; rw [BitVec.lt_def]; omega
end Go.Proofs.Ytgkdbhkbkpfbpaa.HB
