/- Any number's low bytes, with a sign or without, as the program reckons them, are the document's: for every number and every count of bytes. -/
import Derived.Test.YtjpjcmokffjnaaaPWordsCutx2
import Derived.Test.YtjpjcmokffjnaaaHB
set_option linter.unusedVariables false
set_option linter.unusedSimpArgs false
namespace Go.Proofs.Ytjpjcmokffjnaaa.Pure
open Go.RowKit Go.Proofs.Ytjpjcmokffjnaaa.PWordsCut Go.Proofs.YtjpjcmokffjnaaaW.PrintWords Go.Proofs.YtjpjcmokffjnaaaW.PrintLast Go.Proofs.YtjpjcmokffjnaaaW.PrintMore Go.Proofs.Ytjpjcmokffjnaaa.HB

theorem wc_alive : halberdlaw01_alive.f 100 = some true := by decide +kernel

theorem wc_zext1 (x : Int) : words_Zext.f x 1 = some (bits .and .u64 x 255) := by kernel_rfl
theorem wc_zext2 (x : Int) : words_Zext.f x 2 = some (bits .and .u64 x 65535) := by kernel_rfl
theorem wc_zext4 (x : Int) : words_Zext.f x 4 = some (bits .and .u64 x 4294967295) := by kernel_rfl
theorem wc_zext8 (x : Int) : words_Zext.f x 8 = some (bits .and .u64 x 18446744073709551615) := by kernel_rfl
theorem wc_rz1 (x : Int) : halberdref01_Zext.f 100 x 1 = some (Int.tmod x 256) := by kernel_rfl
theorem wc_rz2 (x : Int) : halberdref01_Zext.f 100 x 2 = some (Int.tmod x 65536) := by kernel_rfl
theorem wc_rz4 (x : Int) : halberdref01_Zext.f 100 x 4 = some (Int.tmod x 4294967296) := by kernel_rfl
theorem wc_rz8 (x : Int) : halberdref01_Zext.f 100 x 8 = some x := by kernel_rfl
theorem wc_power : ∀ n : Fin 64, halberdref01_Power.f 100 (n.val : Int) = some (2 ^ n.val) := by decide +kernel
theorem wc_low : ∀ n : Fin 64, words_Low.f (n.val : Int) = halberdref01_Low.f 100 (n.val : Int) ∧ (words_Low.f (n.val : Int)).isSome := by decide +kernel

theorem wc_sext (n : Int) (hn : n = 1 ∨ n = 2 ∨ n = 4 ∨ n = 8) (x : Int) (h0 : 0 ≤ x) (h1 : x < 18446744073709551616) :
    ∃ y, words_Sext.f x n = some y ∧ halberdref01_Sext.f 100 x n = some y := by
  rcases hn with rfl | rfl | rfl | rfl
  · have e1 : words_Sext.f x 1 = some (IntKind.u64.wrap (wrap64 (IntKind.u64.wrap (x * 72057594037927936)) / 72057594037927936)) := by kernel_rfl
    have e2 : halberdref01_Sext.f 100 x 1 = if Int.tmod x 256 ≥ 128 then some (IntKind.u64.wrap (Int.tmod x 256 - 256)) else some (Int.tmod x 256) := by kernel_rfl
    refine ⟨_, e1, ?_⟩
    rw [e2]
    simp only [IntKind.wrap_u64, wrap64, Int.tmod_eq_emod_of_nonneg h0]
    split <;> (congr 1; omega)
  · have e1 : words_Sext.f x 2 = some (IntKind.u64.wrap (wrap64 (IntKind.u64.wrap (x * 281474976710656)) / 281474976710656)) := by kernel_rfl
    have e2 : halberdref01_Sext.f 100 x 2 = if Int.tmod x 65536 ≥ 32768 then some (IntKind.u64.wrap (Int.tmod x 65536 - 65536)) else some (Int.tmod x 65536) := by kernel_rfl
    refine ⟨_, e1, ?_⟩
    rw [e2]
    simp only [IntKind.wrap_u64, wrap64, Int.tmod_eq_emod_of_nonneg h0]
    split <;> (congr 1; omega)
  · have e1 : words_Sext.f x 4 = some (IntKind.u64.wrap (wrap64 (IntKind.u64.wrap (x * 4294967296)) / 4294967296)) := by kernel_rfl
    have e2 : halberdref01_Sext.f 100 x 4 = if Int.tmod x 4294967296 ≥ 2147483648 then some (IntKind.u64.wrap (Int.tmod x 4294967296 - 4294967296)) else some (Int.tmod x 4294967296) := by kernel_rfl
    refine ⟨_, e1, ?_⟩
    rw [e2]
    simp only [IntKind.wrap_u64, wrap64, Int.tmod_eq_emod_of_nonneg h0]
    split <;> (congr 1; omega)
  · have e1 : words_Sext.f x 8 = some (IntKind.u64.wrap (wrap64 (IntKind.u64.wrap (x * 1)) / 1)) := by kernel_rfl
    have e2 : halberdref01_Sext.f 100 x 8 = some x := by kernel_rfl
    refine ⟨_, e1, ?_⟩
    rw [e2]
    simp only [IntKind.wrap_u64, wrap64]
    congr 1; omega

theorem wc_zext (n : Int) (hn : n = 1 ∨ n = 2 ∨ n = 4 ∨ n = 8) (x : Int) (h0 : 0 ≤ x) (h1 : x < 18446744073709551616) :
    ∃ y, words_Zext.f x n = some y ∧ halberdref01_Zext.f 100 x n = some y := by
  rcases hn with rfl | rfl | rfl | rfl
  · refine ⟨_, wc_zext1 x, ?_⟩
    rw [wc_rz1, and_mask x 8 255 (by decide) (by decide) h0 h1, Int.tmod_eq_emod_of_nonneg h0]; rfl
  · refine ⟨_, wc_zext2 x, ?_⟩
    rw [wc_rz2, and_mask x 16 65535 (by decide) (by decide) h0 h1, Int.tmod_eq_emod_of_nonneg h0]; rfl
  · refine ⟨_, wc_zext4 x, ?_⟩
    rw [wc_rz4, and_mask x 32 4294967295 (by decide) (by decide) h0 h1, Int.tmod_eq_emod_of_nonneg h0]; rfl
  · refine ⟨_, wc_zext8 x, ?_⟩
    rw [wc_rz8, and_mask x 64 18446744073709551615 (by decide) (by decide) h0 h1]
    congr 1
    exact (Int.emod_eq_of_lt h0 (by simpa using h1)).symm

theorem wc_lows (n : Int) : ∃ y, words_Low.f n = some y ∧ halberdref01_Low.f 100 n = some y := by
  by_cases h1 : n < 1
  · exact ⟨0, by unfold words_Low.f; rw [if_pos h1], by unfold halberdref01_Low.f; rw [if_pos h1]⟩
  by_cases h2 : n > 63
  · exact ⟨18446744073709551615, by unfold words_Low.f; rw [if_neg h1, if_pos h2], by unfold halberdref01_Low.f; rw [if_neg h1, if_pos h2]⟩
  have h := wc_low ⟨n.toNat, by omega⟩
  have e : ((n.toNat : Nat) : Int) = n := by omega
  simp only [e] at h
  obtain ⟨y, hy⟩ := Option.isSome_iff_exists.mp h.2
  exact ⟨y, hy, h.1.symm.trans hy⟩

theorem WordsCut : halberdlaw01_WordsCut.Pure := by
  intro x n hx _
  obtain ⟨h0, h1⟩ := u64_of hx
  refine ⟨100, ?_⟩
  unfold halberdlaw01_WordsCut.f
  rw [wc_alive]
  obtain ⟨l, hl1, hl2⟩ := wc_lows n
  by_cases hn : n = 1 ∨ n = 2 ∨ n = 4 ∨ n = 8
  · obtain ⟨z, hz1, hz2⟩ := wc_zext n hn x h0 h1
    obtain ⟨s, hs1, hs2⟩ := wc_sext n hn x h0 h1
    have e1 : words_IsSize.f n = some true := by rcases hn with rfl | rfl | rfl | rfl <;> rfl
    have e2 : halberdref01_Size.f n = some true := by rcases hn with rfl | rfl | rfl | rfl <;> rfl
    rw [hz1, hz2, hs1, hs2, hl1, hl2, e1, e2]
    simp
  · have hb : (n == 8) = false := by simp; omega
    have e1 : words_IsSize.f n = some false := by unfold words_IsSize.f; rw [if_neg (by omega), if_neg (by omega), if_neg (by omega), hb]
    have e2 : halberdref01_Size.f n = some false := by unfold halberdref01_Size.f; rw [if_neg (by omega), if_neg (by omega), if_neg (by omega), hb]
    have hz1 : words_Zext.f x n = some x := by unfold words_Zext.f; rw [e1]; rfl
    have hs1 : words_Sext.f x n = some x := by unfold words_Sext.f; rw [e1]; rfl
    have hz2 : halberdref01_Zext.f 100 x n = some x := by unfold halberdref01_Zext.f; rw [e2]; rfl
    have hs2 : halberdref01_Sext.f 100 x n = some x := by unfold halberdref01_Sext.f; rw [e2]; rfl
    rw [hz1, hz2, hs1, hs2, hl1, hl2, e1, e2]
    simp

end Go.Proofs.Ytjpjcmokffjnaaa.Pure
