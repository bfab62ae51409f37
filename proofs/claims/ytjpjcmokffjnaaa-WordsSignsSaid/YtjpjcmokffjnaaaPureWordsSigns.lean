/- A number that was cut with a sign is the one whose low bytes it has, and lies between the bounds of so many bytes: for every number and every count of bytes. -/
import Derived.Test.YtjpjcmokffjnaaaPWordsSignsx1
import Derived.Test.YtjpjcmokffjnaaaHB
set_option linter.unusedVariables false
set_option linter.unusedSimpArgs false
namespace Go.Proofs.Ytjpjcmokffjnaaa.Pure
open Go.RowKit Go.Proofs.Ytjpjcmokffjnaaa.PWordsSigns Go.Proofs.YtjpjcmokffjnaaaW.PrintWords Go.Proofs.YtjpjcmokffjnaaaW.PrintLast Go.Proofs.YtjpjcmokffjnaaaW.PrintMore Go.Proofs.Ytjpjcmokffjnaaa.HB

theorem ws_alive : halberdlaw01_alive.f 100 = some true := by decide +kernel

theorem ws_z1 (x : Int) (h0 : 0 ≤ x) (h1 : x < 18446744073709551616) : words_Zext.f x 1 = some (x % 256) := by
  have e : words_Zext.f x 1 = some (bits .and .u64 x 255) := by kernel_rfl
  rw [e, and_mask x 8 255 (by decide) (by decide) h0 h1]; rfl
theorem ws_z2 (x : Int) (h0 : 0 ≤ x) (h1 : x < 18446744073709551616) : words_Zext.f x 2 = some (x % 65536) := by
  have e : words_Zext.f x 2 = some (bits .and .u64 x 65535) := by kernel_rfl
  rw [e, and_mask x 16 65535 (by decide) (by decide) h0 h1]; rfl
theorem ws_z4 (x : Int) (h0 : 0 ≤ x) (h1 : x < 18446744073709551616) : words_Zext.f x 4 = some (x % 4294967296) := by
  have e : words_Zext.f x 4 = some (bits .and .u64 x 4294967295) := by kernel_rfl
  rw [e, and_mask x 32 4294967295 (by decide) (by decide) h0 h1]; rfl
theorem ws_z8 (x : Int) (h0 : 0 ≤ x) (h1 : x < 18446744073709551616) : words_Zext.f x 8 = some x := by
  have e : words_Zext.f x 8 = some (bits .and .u64 x 18446744073709551615) := by kernel_rfl
  rw [e, and_mask x 64 18446744073709551615 (by decide) (by decide) h0 h1]
  congr 1
  exact Int.emod_eq_of_lt h0 (by simpa using h1)

theorem ws_s1 (x : Int) : words_Sext.f x 1 = some (((x + 128) % 256 - 128) % 18446744073709551616) := by
  have e1 : words_Sext.f x 1 = some (IntKind.u64.wrap (wrap64 (IntKind.u64.wrap (x * 72057594037927936)) / 72057594037927936)) := by kernel_rfl
  rw [e1]
  simp only [IntKind.wrap_u64, wrap64]
  congr 1; omega
theorem ws_s2 (x : Int) : words_Sext.f x 2 = some (((x + 32768) % 65536 - 32768) % 18446744073709551616) := by
  have e1 : words_Sext.f x 2 = some (IntKind.u64.wrap (wrap64 (IntKind.u64.wrap (x * 281474976710656)) / 281474976710656)) := by kernel_rfl
  rw [e1]
  simp only [IntKind.wrap_u64, wrap64]
  congr 1; omega
theorem ws_s4 (x : Int) : words_Sext.f x 4 = some (((x + 2147483648) % 4294967296 - 2147483648) % 18446744073709551616) := by
  have e1 : words_Sext.f x 4 = some (IntKind.u64.wrap (wrap64 (IntKind.u64.wrap (x * 4294967296)) / 4294967296)) := by kernel_rfl
  rw [e1]
  simp only [IntKind.wrap_u64, wrap64]
  congr 1; omega
theorem ws_s8 (x : Int) (h0 : 0 ≤ x) (h1 : x < 18446744073709551616) : words_Sext.f x 8 = some x := by
  have e1 : words_Sext.f x 8 = some (IntKind.u64.wrap (wrap64 (IntKind.u64.wrap (x * 1)) / 1)) := by kernel_rfl
  rw [e1]
  simp only [IntKind.wrap_u64, wrap64]
  congr 1; omega
theorem ws_p1 : halberdref01_Power.f 100 (wrap64 ((wrap64 (8 * 1)) - 1)) = some 128 := by decide +kernel
theorem ws_p2 : halberdref01_Power.f 100 (wrap64 ((wrap64 (8 * 2)) - 1)) = some 32768 := by decide +kernel
theorem ws_p4 : halberdref01_Power.f 100 (wrap64 ((wrap64 (8 * 4)) - 1)) = some 2147483648 := by decide +kernel

theorem WordsSigns : halberdlaw01_WordsSigns.Pure := by
  intro x n hx _
  obtain ⟨h0, h1⟩ := u64_of hx
  refine ⟨100, ?_⟩
  unfold halberdlaw01_WordsSigns.f
  rw [ws_alive]
  by_cases hn : n = 1 ∨ n = 2 ∨ n = 4 ∨ n = 8
  · rcases hn with rfl | rfl | rfl | rfl
    · have e2 : halberdref01_Size.f 1 = some true := by kernel_rfl
      have a0 : 0 ≤ ((x + 128) % 256 - 128) % 18446744073709551616 := by omega
      have a1 : ((x + 128) % 256 - 128) % 18446744073709551616 < 18446744073709551616 := by omega
      rw [e2, ws_s1, ws_z1 x h0 h1, ws_p1]
      simp only [Option.bind_some, if_true]
      rw [ws_z1 _ a0 a1]
      simp only [Option.bind_some]
      rw [if_pos (by omega), if_neg (by decide)]
      simp only [wrap64]
      rw [if_pos (by omega)]
      congr 1
      exact decide_eq_true (by omega)
    · have e2 : halberdref01_Size.f 2 = some true := by kernel_rfl
      have a0 : 0 ≤ ((x + 32768) % 65536 - 32768) % 18446744073709551616 := by omega
      have a1 : ((x + 32768) % 65536 - 32768) % 18446744073709551616 < 18446744073709551616 := by omega
      rw [e2, ws_s2, ws_z2 x h0 h1, ws_p2]
      simp only [Option.bind_some, if_true]
      rw [ws_z2 _ a0 a1]
      simp only [Option.bind_some]
      rw [if_pos (by omega), if_neg (by decide)]
      simp only [wrap64]
      rw [if_pos (by omega)]
      congr 1
      exact decide_eq_true (by omega)
    · have e2 : halberdref01_Size.f 4 = some true := by kernel_rfl
      have a0 : 0 ≤ ((x + 2147483648) % 4294967296 - 2147483648) % 18446744073709551616 := by omega
      have a1 : ((x + 2147483648) % 4294967296 - 2147483648) % 18446744073709551616 < 18446744073709551616 := by omega
      rw [e2, ws_s4, ws_z4 x h0 h1, ws_p4]
      simp only [Option.bind_some, if_true]
      rw [ws_z4 _ a0 a1]
      simp only [Option.bind_some]
      rw [if_pos (by omega), if_neg (by decide)]
      simp only [wrap64]
      rw [if_pos (by omega)]
      congr 1
      exact decide_eq_true (by omega)
    · have e2 : halberdref01_Size.f 8 = some true := by kernel_rfl
      rw [e2, ws_s8 x h0 h1, ws_z8 x h0 h1]
      simp only [Option.bind_some, if_true]
      rw [ws_z8 x h0 h1]
      simp
  · have hb : (n == 8) = false := by simp; omega
    have e2 : halberdref01_Size.f n = some false := by unfold halberdref01_Size.f; rw [if_neg (by omega), if_neg (by omega), if_neg (by omega), hb]
    rw [e2]
    simp

end Go.Proofs.Ytjpjcmokffjnaaa.Pure
