/- Functions of the program that some laws reach, as Lean functions, and proofs that the program's calls come to what they say: written by a program, for the texts that import it; each theorem bears its own conditions. -/
import Derived.Test.YtdojdjafleaedaaPNumBoundsx0
import Derived.Test.YtdojdjafleaedaaPNumBoundsx4
import Derived.Test.YtdojdjafleaedaaPNumBoundsx5
namespace Go.Proofs.Ytdojdjafleaedaa.PNumBounds
open Go.RowKit Go.Proofs.YtdojdjafleaedaaW.PrintWords Go.Proofs.YtdojdjafleaedaaW.PrintLast Go.Proofs.YtdojdjafleaedaaW.PrintMore
attribute [local go_sem] max2_int min2_int max_two min_two max_three min_three max_four min_four   -- for this text's walks alone
set_option linter.unusedVariables false
set_option linter.unusedSimpArgs false

/-! ### halberdref07_Round: function 54 -/
mutual
def halberdref07_Round.j0 : Nat → Int → Int → Int → Int → Int → Int → Int → Int → Option (Int × Int × Int × Int × Int × Int × Bool)
 | 0, _, _, _, _, _, _, _, _ => none
 | k + 1, x4, x5, x260000, x260001, x260002, x260003, x260004, x260005 => if x260003 > x5 then (halberdref07_Round.j1 k x4 x5 x260000 x260001 x260002 x5 x260004 x260005) else (halberdref07_Round.j1 k x4 x5 x260000 x260001 x260002 x260003 x260004 x260005)
def halberdref07_Round.j1 : Nat → Int → Int → Int → Int → Int → Int → Int → Int → Option (Int × Int × Int × Int × Int × Int × Bool)
 | 0, _, _, _, _, _, _, _, _ => none
 | k + 1, x4, x5, x260000, x260001, x260002, x260003, x260004, x260005 => if x5 ≥ 9223372036854775808 then (halberdref07_Round.j2 k x4 x5 9223372036854775808 x4 x5 (decide (x4 < 9223372036854775808)) x260000 x260001 x260002 x260003 x260004 x260005) else (halberdref07_Round.j2 k x4 x5 9223372036854775808 x4 x5 false x260000 x260001 x260002 x260003 x260004 x260005)
def halberdref07_Round.j2 : Nat → Int → Int → Int → Int → Int → Bool → Int → Int → Int → Int → Int → Int → Option (Int × Int × Int × Int × Int × Int × Bool)
 | 0, _, _, _, _, _, _, _, _, _, _, _, _ => none
 | k + 1, x4, x5, x6, x7, x8, x44, x260000, x260001, x260002, x260003, x260004, x260005 => if x44 = true then (halberdref07_Round.j3 k x6 (IntKind.u64.wrap (x4 + x6)) (IntKind.u64.wrap (x5 - x6)) x260000 x260001 x260002 x260003 x260004 x260005) else (halberdref07_Round.j3 k x6 x7 x8 x260000 x260001 x260002 x260003 x260004 x260005)
def halberdref07_Round.j3 : Nat → Int → Int → Int → Int → Int → Int → Int → Int → Int → Option (Int × Int × Int × Int × Int × Int × Bool)
 | 0, _, _, _, _, _, _, _, _, _ => none
 | k + 1, x6, x7, x8, x260000, x260001, x260002, x260003, x260004, x260005 => if x260004 < (wrap64 (x7)) then (halberdref07_Round.j4 k x6 x8 x260000 x260001 x260002 x260003 (wrap64 (x7)) x260005) else (halberdref07_Round.j4 k x6 x8 x260000 x260001 x260002 x260003 x260004 x260005)
def halberdref07_Round.j4 : Nat → Int → Int → Int → Int → Int → Int → Int → Int → Option (Int × Int × Int × Int × Int × Int × Bool)
 | 0, _, _, _, _, _, _, _, _ => none
 | k + 1, x6, x8, x260000, x260001, x260002, x260003, x260004, x260005 => if x260005 > (wrap64 (x8)) then (halberdref07_Round.j5 k x6 x260000 x260001 x260002 x260003 x260004 (wrap64 (x8))) else (halberdref07_Round.j5 k x6 x260000 x260001 x260002 x260003 x260004 x260005)
def halberdref07_Round.j5 : Nat → Int → Int → Int → Int → Int → Int → Int → Option (Int × Int × Int × Int × Int × Int × Bool)
 | 0, _, _, _, _, _, _, _ => none
 | k + 1, x6, x260000, x260001, x260002, x260003, x260004, x260005 => if x6 = 0 then (none) else (if (IntKind.u64.wrap (Int.tdiv x260002 x6)) = (IntKind.u64.wrap (Int.tdiv x260003 x6)) then (if x260004 < (wrap64 (x260002)) then (if x260005 > (wrap64 (x260003)) then (halberdref07_Round.j6 k x260000 x260001 x260002 x260003 (wrap64 (x260002)) (wrap64 (x260003))) else (halberdref07_Round.j6 k x260000 x260001 x260002 x260003 (wrap64 (x260002)) x260005)) else (if x260005 > (wrap64 (x260003)) then (halberdref07_Round.j6 k x260000 x260001 x260002 x260003 x260004 (wrap64 (x260003))) else (halberdref07_Round.j6 k x260000 x260001 x260002 x260003 x260004 x260005))) else (halberdref07_Round.j6 k x260000 x260001 x260002 x260003 x260004 x260005))
def halberdref07_Round.j6 : Nat → Int → Int → Int → Int → Int → Int → Option (Int × Int × Int × Int × Int × Int × Bool)
 | 0, _, _, _, _, _, _ => none
 | k + 1, x260000, x260001, x260002, x260003, x260004, x260005 => if x260004 ≥ 0 then (if x260005 ≥ 0 then (halberdref07_Round.j7 k true x260000 x260001 x260002 x260003 x260004 x260005) else (if x260004 < 0 then (halberdref07_Round.j7 k (decide (x260005 < 0)) x260000 x260001 x260002 x260003 x260004 x260005) else (halberdref07_Round.j7 k false x260000 x260001 x260002 x260003 x260004 x260005))) else (if x260004 < 0 then (halberdref07_Round.j7 k (decide (x260005 < 0)) x260000 x260001 x260002 x260003 x260004 x260005) else (halberdref07_Round.j7 k false x260000 x260001 x260002 x260003 x260004 x260005))
def halberdref07_Round.j7 : Nat → Bool → Int → Int → Int → Int → Int → Int → Option (Int × Int × Int × Int × Int × Int × Bool)
 | 0, _, _, _, _, _, _, _ => none
 | k + 1, x113, x260000, x260001, x260002, x260003, x260004, x260005 => if x113 = true then (if x260002 < (IntKind.u64.wrap (x260004)) then (if x260003 > (IntKind.u64.wrap (x260005)) then (halberdref07_Round.j8 k x260000 x260001 (IntKind.u64.wrap (x260004)) (IntKind.u64.wrap (x260005)) x260004 x260005) else (halberdref07_Round.j8 k x260000 x260001 (IntKind.u64.wrap (x260004)) x260003 x260004 x260005)) else (if x260003 > (IntKind.u64.wrap (x260005)) then (halberdref07_Round.j8 k x260000 x260001 x260002 (IntKind.u64.wrap (x260005)) x260004 x260005) else (halberdref07_Round.j8 k x260000 x260001 x260002 x260003 x260004 x260005))) else (halberdref07_Round.j8 k x260000 x260001 x260002 x260003 x260004 x260005)
def halberdref07_Round.j8 : Nat → Int → Int → Int → Int → Int → Int → Option (Int × Int × Int × Int × Int × Int × Bool)
 | 0, _, _, _, _, _, _ => none
 | k + 1, x260000, x260001, x260002, x260003, x260004, x260005 => if x260002 > x260003 then (halberdref07_Round.j9 k true x260000 x260001 x260002 x260003 x260004 x260005) else (halberdref07_Round.j9 k (decide (x260004 > x260005)) x260000 x260001 x260002 x260003 x260004 x260005)
def halberdref07_Round.j9 : Nat → Bool → Int → Int → Int → Int → Int → Int → Option (Int × Int × Int × Int × Int × Int × Bool)
 | 0, _, _, _, _, _, _, _ => none
 | k + 1, x145, x260000, x260001, x260002, x260003, x260004, x260005 => if x145 = true then ((halberdref07_All.f).bind fun bt261 => (some (bt261.1, bt261.2.1, bt261.2.2.1, bt261.2.2.2.1, bt261.2.2.2.2.1, bt261.2.2.2.2.2, false))) else ((halberdref06_Range.f k x260002 x260003).bind fun bt267 => ((halberdref06_Meet.f k x260000 x260001 bt267.1 bt267.2).bind fun bt269 => (if bt269.2.2 = true then (some (bt269.1, bt269.2.1, x260002, x260003, x260004, x260005, true)) else ((halberdref07_All.f).bind fun bt273 => (some (bt273.1, bt273.2.1, bt273.2.2.1, bt273.2.2.2.1, bt273.2.2.2.2.1, bt273.2.2.2.2.2, false))))))
end
def halberdref07_Round.f (k : Nat) (a0_0 : Int) (a0_1 : Int) (a0_2 : Int) (a0_3 : Int) (a0_4 : Int) (a0_5 : Int) : Option (Int × Int × Int × Int × Int × Int × Bool) := if a0_2 < (Go.bits .andNot .u64 a0_0 a0_1) then (halberdref07_Round.j0 k (Go.bits .andNot .u64 a0_0 a0_1) (IntKind.u64.wrap ((Go.bits .andNot .u64 a0_0 a0_1) + a0_1)) a0_0 a0_1 (Go.bits .andNot .u64 a0_0 a0_1) a0_3 a0_4 a0_5) else (halberdref07_Round.j0 k (Go.bits .andNot .u64 a0_0 a0_1) (IntKind.u64.wrap ((Go.bits .andNot .u64 a0_0 a0_1) + a0_1)) a0_0 a0_1 a0_2 a0_3 a0_4 a0_5)
theorem halberdref07_Round.mono_l : ∀ k, (∀ y0 y1 y2 y3 y4 y5 y6 y7, LeO (halberdref07_Round.j0 k y0 y1 y2 y3 y4 y5 y6 y7) (halberdref07_Round.j0 (k + 1) y0 y1 y2 y3 y4 y5 y6 y7)) ∧ (∀ y0 y1 y2 y3 y4 y5 y6 y7, LeO (halberdref07_Round.j1 k y0 y1 y2 y3 y4 y5 y6 y7) (halberdref07_Round.j1 (k + 1) y0 y1 y2 y3 y4 y5 y6 y7)) ∧ (∀ y0 y1 y2 y3 y4 y5 y6 y7 y8 y9 y10 y11, LeO (halberdref07_Round.j2 k y0 y1 y2 y3 y4 y5 y6 y7 y8 y9 y10 y11) (halberdref07_Round.j2 (k + 1) y0 y1 y2 y3 y4 y5 y6 y7 y8 y9 y10 y11)) ∧ (∀ y0 y1 y2 y3 y4 y5 y6 y7 y8, LeO (halberdref07_Round.j3 k y0 y1 y2 y3 y4 y5 y6 y7 y8) (halberdref07_Round.j3 (k + 1) y0 y1 y2 y3 y4 y5 y6 y7 y8)) ∧ (∀ y0 y1 y2 y3 y4 y5 y6 y7, LeO (halberdref07_Round.j4 k y0 y1 y2 y3 y4 y5 y6 y7) (halberdref07_Round.j4 (k + 1) y0 y1 y2 y3 y4 y5 y6 y7)) ∧ (∀ y0 y1 y2 y3 y4 y5 y6, LeO (halberdref07_Round.j5 k y0 y1 y2 y3 y4 y5 y6) (halberdref07_Round.j5 (k + 1) y0 y1 y2 y3 y4 y5 y6)) ∧ (∀ y0 y1 y2 y3 y4 y5, LeO (halberdref07_Round.j6 k y0 y1 y2 y3 y4 y5) (halberdref07_Round.j6 (k + 1) y0 y1 y2 y3 y4 y5)) ∧ (∀ y0 y1 y2 y3 y4 y5 y6, LeO (halberdref07_Round.j7 k y0 y1 y2 y3 y4 y5 y6) (halberdref07_Round.j7 (k + 1) y0 y1 y2 y3 y4 y5 y6)) ∧ (∀ y0 y1 y2 y3 y4 y5, LeO (halberdref07_Round.j8 k y0 y1 y2 y3 y4 y5) (halberdref07_Round.j8 (k + 1) y0 y1 y2 y3 y4 y5)) ∧ (∀ y0 y1 y2 y3 y4 y5 y6, LeO (halberdref07_Round.j9 k y0 y1 y2 y3 y4 y5 y6) (halberdref07_Round.j9 (k + 1) y0 y1 y2 y3 y4 y5 y6))
 | 0 => ⟨fun _ _ _ _ _ _ _ _ r h => by simp [halberdref07_Round.j0] at h, fun _ _ _ _ _ _ _ _ r h => by simp [halberdref07_Round.j1] at h, fun _ _ _ _ _ _ _ _ _ _ _ _ r h => by simp [halberdref07_Round.j2] at h, fun _ _ _ _ _ _ _ _ _ r h => by simp [halberdref07_Round.j3] at h, fun _ _ _ _ _ _ _ _ r h => by simp [halberdref07_Round.j4] at h, fun _ _ _ _ _ _ _ r h => by simp [halberdref07_Round.j5] at h, fun _ _ _ _ _ _ r h => by simp [halberdref07_Round.j6] at h, fun _ _ _ _ _ _ _ r h => by simp [halberdref07_Round.j7] at h, fun _ _ _ _ _ _ r h => by simp [halberdref07_Round.j8] at h, fun _ _ _ _ _ _ _ r h => by simp [halberdref07_Round.j9] at h⟩
 | k + 1 => by
  obtain ⟨ih0, ih1, ih2, ih3, ih4, ih5, ih6, ih7, ih8, ih9⟩ := halberdref07_Round.mono_l k
  refine ⟨?_, ?_, ?_, ?_, ?_, ?_, ?_, ?_, ?_, ?_⟩
  ·intro y0 y1 y2 y3 y4 y5 y6 y7
   unfold halberdref07_Round.j0
   repeat' first
   | (with_reducible exact ih0 _ _ _ _ _ _ _ _)
   | (with_reducible exact ih1 _ _ _ _ _ _ _ _)
   | (with_reducible exact ih2 _ _ _ _ _ _ _ _ _ _ _ _)
   | (with_reducible exact ih3 _ _ _ _ _ _ _ _ _)
   | (with_reducible exact ih4 _ _ _ _ _ _ _ _)
   | (with_reducible exact ih5 _ _ _ _ _ _ _)
   | (with_reducible exact ih6 _ _ _ _ _ _)
   | (with_reducible exact ih7 _ _ _ _ _ _ _)
   | (with_reducible exact ih8 _ _ _ _ _ _)
   | (with_reducible exact ih9 _ _ _ _ _ _ _)
   | (with_reducible exact halberdref06_Meet.mono _ _ _ _ _)
   | (with_reducible exact halberdref06_Range.mono _ _ _)
   | (with_reducible exact LeO.refl _)
   | (with_reducible exact LeO.none _)
   | (with_reducible refine LeO.ite ?_ ?_)
   | (with_reducible refine LeO.bind ?_ (fun _ => ?_))
   | exact ih0 _ _ _ _ _ _ _ _
   | exact ih1 _ _ _ _ _ _ _ _
   | exact ih2 _ _ _ _ _ _ _ _ _ _ _ _
   | exact ih3 _ _ _ _ _ _ _ _ _
   | exact ih4 _ _ _ _ _ _ _ _
   | exact ih5 _ _ _ _ _ _ _
   | exact ih6 _ _ _ _ _ _
   | exact ih7 _ _ _ _ _ _ _
   | exact ih8 _ _ _ _ _ _
   | exact ih9 _ _ _ _ _ _ _
   | exact halberdref06_Meet.mono _ _ _ _ _
   | exact halberdref06_Range.mono _ _ _
   | exact LeO.none _
   | refine LeO.ite ?_ ?_
   | refine LeO.bind ?_ (fun _ => ?_)
  ·intro y0 y1 y2 y3 y4 y5 y6 y7
   unfold halberdref07_Round.j1
   repeat' first
   | (with_reducible exact ih0 _ _ _ _ _ _ _ _)
   | (with_reducible exact ih1 _ _ _ _ _ _ _ _)
   | (with_reducible exact ih2 _ _ _ _ _ _ _ _ _ _ _ _)
   | (with_reducible exact ih3 _ _ _ _ _ _ _ _ _)
   | (with_reducible exact ih4 _ _ _ _ _ _ _ _)
   | (with_reducible exact ih5 _ _ _ _ _ _ _)
   | (with_reducible exact ih6 _ _ _ _ _ _)
   | (with_reducible exact ih7 _ _ _ _ _ _ _)
   | (with_reducible exact ih8 _ _ _ _ _ _)
   | (with_reducible exact ih9 _ _ _ _ _ _ _)
   | (with_reducible exact halberdref06_Meet.mono _ _ _ _ _)
   | (with_reducible exact halberdref06_Range.mono _ _ _)
   | (with_reducible exact LeO.refl _)
   | (with_reducible exact LeO.none _)
   | (with_reducible refine LeO.ite ?_ ?_)
   | (with_reducible refine LeO.bind ?_ (fun _ => ?_))
   | exact ih0 _ _ _ _ _ _ _ _
   | exact ih1 _ _ _ _ _ _ _ _
   | exact ih2 _ _ _ _ _ _ _ _ _ _ _ _
   | exact ih3 _ _ _ _ _ _ _ _ _
   | exact ih4 _ _ _ _ _ _ _ _
   | exact ih5 _ _ _ _ _ _ _
   | exact ih6 _ _ _ _ _ _
   | exact ih7 _ _ _ _ _ _ _
   | exact ih8 _ _ _ _ _ _
   | exact ih9 _ _ _ _ _ _ _
   | exact halberdref06_Meet.mono _ _ _ _ _
   | exact halberdref06_Range.mono _ _ _
   | exact LeO.none _
   | refine LeO.ite ?_ ?_
   | refine LeO.bind ?_ (fun _ => ?_)
  ·intro y0 y1 y2 y3 y4 y5 y6 y7 y8 y9 y10 y11
   unfold halberdref07_Round.j2
   repeat' first
   | (with_reducible exact ih0 _ _ _ _ _ _ _ _)
   | (with_reducible exact ih1 _ _ _ _ _ _ _ _)
   | (with_reducible exact ih2 _ _ _ _ _ _ _ _ _ _ _ _)
   | (with_reducible exact ih3 _ _ _ _ _ _ _ _ _)
   | (with_reducible exact ih4 _ _ _ _ _ _ _ _)
   | (with_reducible exact ih5 _ _ _ _ _ _ _)
   | (with_reducible exact ih6 _ _ _ _ _ _)
   | (with_reducible exact ih7 _ _ _ _ _ _ _)
   | (with_reducible exact ih8 _ _ _ _ _ _)
   | (with_reducible exact ih9 _ _ _ _ _ _ _)
   | (with_reducible exact halberdref06_Meet.mono _ _ _ _ _)
   | (with_reducible exact halberdref06_Range.mono _ _ _)
   | (with_reducible exact LeO.refl _)
   | (with_reducible exact LeO.none _)
   | (with_reducible refine LeO.ite ?_ ?_)
   | (with_reducible refine LeO.bind ?_ (fun _ => ?_))
   | exact ih0 _ _ _ _ _ _ _ _
   | exact ih1 _ _ _ _ _ _ _ _
   | exact ih2 _ _ _ _ _ _ _ _ _ _ _ _
   | exact ih3 _ _ _ _ _ _ _ _ _
   | exact ih4 _ _ _ _ _ _ _ _
   | exact ih5 _ _ _ _ _ _ _
   | exact ih6 _ _ _ _ _ _
   | exact ih7 _ _ _ _ _ _ _
   | exact ih8 _ _ _ _ _ _
   | exact ih9 _ _ _ _ _ _ _
   | exact halberdref06_Meet.mono _ _ _ _ _
   | exact halberdref06_Range.mono _ _ _
   | exact LeO.none _
   | refine LeO.ite ?_ ?_
   | refine LeO.bind ?_ (fun _ => ?_)
  ·intro y0 y1 y2 y3 y4 y5 y6 y7 y8
   unfold halberdref07_Round.j3
   repeat' first
   | (with_reducible exact ih0 _ _ _ _ _ _ _ _)
   | (with_reducible exact ih1 _ _ _ _ _ _ _ _)
   | (with_reducible exact ih2 _ _ _ _ _ _ _ _ _ _ _ _)
   | (with_reducible exact ih3 _ _ _ _ _ _ _ _ _)
   | (with_reducible exact ih4 _ _ _ _ _ _ _ _)
   | (with_reducible exact ih5 _ _ _ _ _ _ _)
   | (with_reducible exact ih6 _ _ _ _ _ _)
   | (with_reducible exact ih7 _ _ _ _ _ _ _)
   | (with_reducible exact ih8 _ _ _ _ _ _)
   | (with_reducible exact ih9 _ _ _ _ _ _ _)
   | (with_reducible exact halberdref06_Meet.mono _ _ _ _ _)
   | (with_reducible exact halberdref06_Range.mono _ _ _)
   | (with_reducible exact LeO.refl _)
   | (with_reducible exact LeO.none _)
   | (with_reducible refine LeO.ite ?_ ?_)
   | (with_reducible refine LeO.bind ?_ (fun _ => ?_))
   | exact ih0 _ _ _ _ _ _ _ _
   | exact ih1 _ _ _ _ _ _ _ _
   | exact ih2 _ _ _ _ _ _ _ _ _ _ _ _
   | exact ih3 _ _ _ _ _ _ _ _ _
   | exact ih4 _ _ _ _ _ _ _ _
   | exact ih5 _ _ _ _ _ _ _
   | exact ih6 _ _ _ _ _ _
   | exact ih7 _ _ _ _ _ _ _
   | exact ih8 _ _ _ _ _ _
   | exact ih9 _ _ _ _ _ _ _
   | exact halberdref06_Meet.mono _ _ _ _ _
   | exact halberdref06_Range.mono _ _ _
   | exact LeO.none _
   | refine LeO.ite ?_ ?_
   | refine LeO.bind ?_ (fun _ => ?_)
  ·intro y0 y1 y2 y3 y4 y5 y6 y7
   unfold halberdref07_Round.j4
   repeat' first
   | (with_reducible exact ih0 _ _ _ _ _ _ _ _)
   | (with_reducible exact ih1 _ _ _ _ _ _ _ _)
   | (with_reducible exact ih2 _ _ _ _ _ _ _ _ _ _ _ _)
   | (with_reducible exact ih3 _ _ _ _ _ _ _ _ _)
   | (with_reducible exact ih4 _ _ _ _ _ _ _ _)
   | (with_reducible exact ih5 _ _ _ _ _ _ _)
   | (with_reducible exact ih6 _ _ _ _ _ _)
   | (with_reducible exact ih7 _ _ _ _ _ _ _)
   | (with_reducible exact ih8 _ _ _ _ _ _)
   | (with_reducible exact ih9 _ _ _ _ _ _ _)
   | (with_reducible exact halberdref06_Meet.mono _ _ _ _ _)
   | (with_reducible exact halberdref06_Range.mono _ _ _)
   | (with_reducible exact LeO.refl _)
   | (with_reducible exact LeO.none _)
   | (with_reducible refine LeO.ite ?_ ?_)
   | (with_reducible refine LeO.bind ?_ (fun _ => ?_))
   | exact ih0 _ _ _ _ _ _ _ _
   | exact ih1 _ _ _ _ _ _ _ _
   | exact ih2 _ _ _ _ _ _ _ _ _ _ _ _
   | exact ih3 _ _ _ _ _ _ _ _ _
   | exact ih4 _ _ _ _ _ _ _ _
   | exact ih5 _ _ _ _ _ _ _
   | exact ih6 _ _ _ _ _ _
   | exact ih7 _ _ _ _ _ _ _
   | exact ih8 _ _ _ _ _ _
   | exact ih9 _ _ _ _ _ _ _
   | exact halberdref06_Meet.mono _ _ _ _ _
   | exact halberdref06_Range.mono _ _ _
   | exact LeO.none _
   | refine LeO.ite ?_ ?_
   | refine LeO.bind ?_ (fun _ => ?_)
  ·intro y0 y1 y2 y3 y4 y5 y6
   unfold halberdref07_Round.j5
   repeat' first
   | (with_reducible exact ih0 _ _ _ _ _ _ _ _)
   | (with_reducible exact ih1 _ _ _ _ _ _ _ _)
   | (with_reducible exact ih2 _ _ _ _ _ _ _ _ _ _ _ _)
   | (with_reducible exact ih3 _ _ _ _ _ _ _ _ _)
   | (with_reducible exact ih4 _ _ _ _ _ _ _ _)
   | (with_reducible exact ih5 _ _ _ _ _ _ _)
   | (with_reducible exact ih6 _ _ _ _ _ _)
   | (with_reducible exact ih7 _ _ _ _ _ _ _)
   | (with_reducible exact ih8 _ _ _ _ _ _)
   | (with_reducible exact ih9 _ _ _ _ _ _ _)
   | (with_reducible exact halberdref06_Meet.mono _ _ _ _ _)
   | (with_reducible exact halberdref06_Range.mono _ _ _)
   | (with_reducible exact LeO.refl _)
   | (with_reducible exact LeO.none _)
   | (with_reducible refine LeO.ite ?_ ?_)
   | (with_reducible refine LeO.bind ?_ (fun _ => ?_))
   | exact ih0 _ _ _ _ _ _ _ _
   | exact ih1 _ _ _ _ _ _ _ _
   | exact ih2 _ _ _ _ _ _ _ _ _ _ _ _
   | exact ih3 _ _ _ _ _ _ _ _ _
   | exact ih4 _ _ _ _ _ _ _ _
   | exact ih5 _ _ _ _ _ _ _
   | exact ih6 _ _ _ _ _ _
   | exact ih7 _ _ _ _ _ _ _
   | exact ih8 _ _ _ _ _ _
   | exact ih9 _ _ _ _ _ _ _
   | exact halberdref06_Meet.mono _ _ _ _ _
   | exact halberdref06_Range.mono _ _ _
   | exact LeO.none _
   | refine LeO.ite ?_ ?_
   | refine LeO.bind ?_ (fun _ => ?_)
  ·intro y0 y1 y2 y3 y4 y5
   unfold halberdref07_Round.j6
   repeat' first
   | (with_reducible exact ih0 _ _ _ _ _ _ _ _)
   | (with_reducible exact ih1 _ _ _ _ _ _ _ _)
   | (with_reducible exact ih2 _ _ _ _ _ _ _ _ _ _ _ _)
   | (with_reducible exact ih3 _ _ _ _ _ _ _ _ _)
   | (with_reducible exact ih4 _ _ _ _ _ _ _ _)
   | (with_reducible exact ih5 _ _ _ _ _ _ _)
   | (with_reducible exact ih6 _ _ _ _ _ _)
   | (with_reducible exact ih7 _ _ _ _ _ _ _)
   | (with_reducible exact ih8 _ _ _ _ _ _)
   | (with_reducible exact ih9 _ _ _ _ _ _ _)
   | (with_reducible exact halberdref06_Meet.mono _ _ _ _ _)
   | (with_reducible exact halberdref06_Range.mono _ _ _)
   | (with_reducible exact LeO.refl _)
   | (with_reducible exact LeO.none _)
   | (with_reducible refine LeO.ite ?_ ?_)
   | (with_reducible refine LeO.bind ?_ (fun _ => ?_))
   | exact ih0 _ _ _ _ _ _ _ _
   | exact ih1 _ _ _ _ _ _ _ _
   | exact ih2 _ _ _ _ _ _ _ _ _ _ _ _
   | exact ih3 _ _ _ _ _ _ _ _ _
   | exact ih4 _ _ _ _ _ _ _ _
   | exact ih5 _ _ _ _ _ _ _
   | exact ih6 _ _ _ _ _ _
   | exact ih7 _ _ _ _ _ _ _
   | exact ih8 _ _ _ _ _ _
   | exact ih9 _ _ _ _ _ _ _
   | exact halberdref06_Meet.mono _ _ _ _ _
   | exact halberdref06_Range.mono _ _ _
   | exact LeO.none _
   | refine LeO.ite ?_ ?_
   | refine LeO.bind ?_ (fun _ => ?_)
  ·intro y0 y1 y2 y3 y4 y5 y6
   unfold halberdref07_Round.j7
   repeat' first
   | (with_reducible exact ih0 _ _ _ _ _ _ _ _)
   | (with_reducible exact ih1 _ _ _ _ _ _ _ _)
   | (with_reducible exact ih2 _ _ _ _ _ _ _ _ _ _ _ _)
   | (with_reducible exact ih3 _ _ _ _ _ _ _ _ _)
   | (with_reducible exact ih4 _ _ _ _ _ _ _ _)
   | (with_reducible exact ih5 _ _ _ _ _ _ _)
   | (with_reducible exact ih6 _ _ _ _ _ _)
   | (with_reducible exact ih7 _ _ _ _ _ _ _)
   | (with_reducible exact ih8 _ _ _ _ _ _)
   | (with_reducible exact ih9 _ _ _ _ _ _ _)
   | (with_reducible exact halberdref06_Meet.mono _ _ _ _ _)
   | (with_reducible exact halberdref06_Range.mono _ _ _)
   | (with_reducible exact LeO.refl _)
   | (with_reducible exact LeO.none _)
   | (with_reducible refine LeO.ite ?_ ?_)
   | (with_reducible refine LeO.bind ?_ (fun _ => ?_))
   | exact ih0 _ _ _ _ _ _ _ _
   | exact ih1 _ _ _ _ _ _ _ _
   | exact ih2 _ _ _ _ _ _ _ _ _ _ _ _
   | exact ih3 _ _ _ _ _ _ _ _ _
   | exact ih4 _ _ _ _ _ _ _ _
   | exact ih5 _ _ _ _ _ _ _
   | exact ih6 _ _ _ _ _ _
   | exact ih7 _ _ _ _ _ _ _
   | exact ih8 _ _ _ _ _ _
   | exact ih9 _ _ _ _ _ _ _
   | exact halberdref06_Meet.mono _ _ _ _ _
   | exact halberdref06_Range.mono _ _ _
   | exact LeO.none _
   | refine LeO.ite ?_ ?_
   | refine LeO.bind ?_ (fun _ => ?_)
  ·intro y0 y1 y2 y3 y4 y5
   unfold halberdref07_Round.j8
   repeat' first
   | (with_reducible exact ih0 _ _ _ _ _ _ _ _)
   | (with_reducible exact ih1 _ _ _ _ _ _ _ _)
   | (with_reducible exact ih2 _ _ _ _ _ _ _ _ _ _ _ _)
   | (with_reducible exact ih3 _ _ _ _ _ _ _ _ _)
   | (with_reducible exact ih4 _ _ _ _ _ _ _ _)
   | (with_reducible exact ih5 _ _ _ _ _ _ _)
   | (with_reducible exact ih6 _ _ _ _ _ _)
   | (with_reducible exact ih7 _ _ _ _ _ _ _)
   | (with_reducible exact ih8 _ _ _ _ _ _)
   | (with_reducible exact ih9 _ _ _ _ _ _ _)
   | (with_reducible exact halberdref06_Meet.mono _ _ _ _ _)
   | (with_reducible exact halberdref06_Range.mono _ _ _)
   | (with_reducible exact LeO.refl _)
   | (with_reducible exact LeO.none _)
   | (with_reducible refine LeO.ite ?_ ?_)
   | (with_reducible refine LeO.bind ?_ (fun _ => ?_))
   | exact ih0 _ _ _ _ _ _ _ _
   | exact ih1 _ _ _ _ _ _ _ _
   | exact ih2 _ _ _ _ _ _ _ _ _ _ _ _
   | exact ih3 _ _ _ _ _ _ _ _ _
   | exact ih4 _ _ _ _ _ _ _ _
   | exact ih5 _ _ _ _ _ _ _
   | exact ih6 _ _ _ _ _ _
   | exact ih7 _ _ _ _ _ _ _
   | exact ih8 _ _ _ _ _ _
   | exact ih9 _ _ _ _ _ _ _
   | exact halberdref06_Meet.mono _ _ _ _ _
   | exact halberdref06_Range.mono _ _ _
   | exact LeO.none _
   | refine LeO.ite ?_ ?_
   | refine LeO.bind ?_ (fun _ => ?_)
  ·intro y0 y1 y2 y3 y4 y5 y6
   unfold halberdref07_Round.j9
   repeat' first
   | (with_reducible exact ih0 _ _ _ _ _ _ _ _)
   | (with_reducible exact ih1 _ _ _ _ _ _ _ _)
   | (with_reducible exact ih2 _ _ _ _ _ _ _ _ _ _ _ _)
   | (with_reducible exact ih3 _ _ _ _ _ _ _ _ _)
   | (with_reducible exact ih4 _ _ _ _ _ _ _ _)
   | (with_reducible exact ih5 _ _ _ _ _ _ _)
   | (with_reducible exact ih6 _ _ _ _ _ _)
   | (with_reducible exact ih7 _ _ _ _ _ _ _)
   | (with_reducible exact ih8 _ _ _ _ _ _)
   | (with_reducible exact ih9 _ _ _ _ _ _ _)
   | (with_reducible exact halberdref06_Meet.mono _ _ _ _ _)
   | (with_reducible exact halberdref06_Range.mono _ _ _)
   | (with_reducible exact LeO.refl _)
   | (with_reducible exact LeO.none _)
   | (with_reducible refine LeO.ite ?_ ?_)
   | (with_reducible refine LeO.bind ?_ (fun _ => ?_))
   | exact ih0 _ _ _ _ _ _ _ _
   | exact ih1 _ _ _ _ _ _ _ _
   | exact ih2 _ _ _ _ _ _ _ _ _ _ _ _
   | exact ih3 _ _ _ _ _ _ _ _ _
   | exact ih4 _ _ _ _ _ _ _ _
   | exact ih5 _ _ _ _ _ _ _
   | exact ih6 _ _ _ _ _ _
   | exact ih7 _ _ _ _ _ _ _
   | exact ih8 _ _ _ _ _ _
   | exact ih9 _ _ _ _ _ _ _
   | exact halberdref06_Meet.mono _ _ _ _ _
   | exact halberdref06_Range.mono _ _ _
   | exact LeO.none _
   | refine LeO.ite ?_ ?_
   | refine LeO.bind ?_ (fun _ => ?_)
theorem halberdref07_Round.mono : ∀ a0 a1 a2 a3 a4 a5 k, LeO (halberdref07_Round.f k a0 a1 a2 a3 a4 a5) (halberdref07_Round.f (k + 1) a0 a1 a2 a3 a4 a5) := by
 intro a0 a1 a2 a3 a4 a5 k
 obtain ⟨ih0, ih1, ih2, ih3, ih4, ih5, ih6, ih7, ih8, ih9⟩ := halberdref07_Round.mono_l k
 unfold halberdref07_Round.f
 repeat' first
   | (with_reducible exact ih0 _ _ _ _ _ _ _ _)
   | (with_reducible exact ih1 _ _ _ _ _ _ _ _)
   | (with_reducible exact ih2 _ _ _ _ _ _ _ _ _ _ _ _)
   | (with_reducible exact ih3 _ _ _ _ _ _ _ _ _)
   | (with_reducible exact ih4 _ _ _ _ _ _ _ _)
   | (with_reducible exact ih5 _ _ _ _ _ _ _)
   | (with_reducible exact ih6 _ _ _ _ _ _)
   | (with_reducible exact ih7 _ _ _ _ _ _ _)
   | (with_reducible exact ih8 _ _ _ _ _ _)
   | (with_reducible exact ih9 _ _ _ _ _ _ _)
   | (with_reducible exact halberdref06_Meet.mono _ _ _ _ _)
   | (with_reducible exact halberdref06_Range.mono _ _ _)
   | (with_reducible exact LeO.refl _)
   | (with_reducible exact LeO.none _)
   | (with_reducible refine LeO.ite ?_ ?_)
   | (with_reducible refine LeO.bind ?_ (fun _ => ?_))
   | exact ih0 _ _ _ _ _ _ _ _
   | exact ih1 _ _ _ _ _ _ _ _
   | exact ih2 _ _ _ _ _ _ _ _ _ _ _ _
   | exact ih3 _ _ _ _ _ _ _ _ _
   | exact ih4 _ _ _ _ _ _ _ _
   | exact ih5 _ _ _ _ _ _ _
   | exact ih6 _ _ _ _ _ _
   | exact ih7 _ _ _ _ _ _ _
   | exact ih8 _ _ _ _ _ _
   | exact ih9 _ _ _ _ _ _ _
   | exact halberdref06_Meet.mono _ _ _ _ _
   | exact halberdref06_Range.mono _ _ _
   | exact LeO.none _
   | refine LeO.ite ?_ ?_
   | refine LeO.bind ?_ (fun _ => ?_)
def halberdref07_Round.T16 : Bool × List (List Nat × List Nat) := (true, [([], []), ([0], [0]), ([], []), ([1, 2], [1, 2]), ([], []), ([4], [4]), ([], []), ([5, 6], [5, 6]), ([3, 7], [3, 7])])
def halberdref07_Round.B16 : List Nat := [0, 1, 0, 7, 0, 16, 0, 112, 255]
theorem halberdref07_Round.tab16 : rtab .any (opsOf Try.f54 16) = halberdref07_Round.T16 := by kernel_rfl
theorem halberdref07_Round.bits16 : waitsOk halberdref07_Round.T16.2 halberdref07_Round.B16 = true := by kernel_rfl
def halberdref07_Round.T28 : Bool × List (List Nat × List Nat) := (true, [([], []), ([0], [0]), ([], []), ([2], [2]), ([], []), ([4], [4]), ([3, 5], [3, 5]), ([1, 6, 6], [1, 6]), ([7], [7]), ([8], [8]), ([8], [8]), ([], []), ([11, 9, 7, 0, 1, 2, 3, 4, 5, 6, 7, 8, 9, 11], [9, 11]), ([10, 12, 0, 1, 2, 3, 4, 5, 6, 7, 8, 9, 10, 11, 12], [10])])
def halberdref07_Round.B28 : List Nat := [0, 1, 0, 4, 0, 16, 60, 127, 255, 511, 511, 0, 3071, 8191]
theorem halberdref07_Round.tab28 : rtab .any (opsOf Try.f54 28) = halberdref07_Round.T28 := by kernel_rfl
theorem halberdref07_Round.bits28 : waitsOk halberdref07_Round.T28.2 halberdref07_Round.B28 = true := by kernel_rfl
set_option maxHeartbeats 8000000 in
set_option maxRecDepth 100000 in
theorem halberdref07_Round.calls (k : Nat) (a0_0 : Int) (a0_1 : Int) (a0_2 : Int) (a0_3 : Int) (a0_4 : Int) (a0_5 : Int) (r1 : Int) (r2 : Int) (r3 : Int) (r4 : Int) (r5 : Int) (r6 : Int) (r7 : Bool) (w : World) (h : halberdref07_Round.f k a0_0 a0_1 a0_2 a0_3 a0_4 a0_5 = some (r1, r2, r3, r4, r5, r6, r7)) :
  Calls Try.prog 54 #[.agg #[.int .u64 a0_0, .int .u64 a0_1, .int .u64 a0_2, .int .u64 a0_3, .int .i64 a0_4, .int .i64 a0_5]] w fun e w' => e = .returned (.tuple #[.agg #[.int .u64 r1, .int .u64 r2, .int .u64 r3, .int .u64 r4, .int .i64 r5, .int .i64 r6], .bool r7]) ∧ Below w.heap.size w w' := by
 have hu36 := Try.underlying36
 have hu34 := Try.underlying34
 have HB := Aside0.mk (Below.refl w.heap.size w)
 have H : (if a0_2 < (Go.bits .andNot .u64 a0_0 a0_1) then (halberdref07_Round.j0 k (Go.bits .andNot .u64 a0_0 a0_1) (IntKind.u64.wrap ((Go.bits .andNot .u64 a0_0 a0_1) + a0_1)) a0_0 a0_1 (Go.bits .andNot .u64 a0_0 a0_1) a0_3 a0_4 a0_5) else (halberdref07_Round.j0 k (Go.bits .andNot .u64 a0_0 a0_1) (IntKind.u64.wrap ((Go.bits .andNot .u64 a0_0 a0_1) + a0_1)) a0_0 a0_1 a0_2 a0_3 a0_4 a0_5)) = some (r1, r2, r3, r4, r5, r6, r7) := h
 clear h
 have HC2 := Aside0.mk H
 clear H
 go_enter Try.func54, Try.ntmps54
 go_upto_if 26 with (first | ((with_reducible refine gate_dst (N := 1) rfl ?_); refine box_event ?hg (N := 1) ?hd (cs := #[.int .u64 a0_0, .int .u64 a0_1, .int .u64 a0_2, .int .u64 a0_3, .int .i64 a0_4, .int .i64 a0_5]) (t := 36) ?hr ?_; (case hd => rfl); (case hg => rfl); (case hr => first | (go_simp; done) | (go_simp; rfl)); intro gb259 hg w3 hbox hb; have n0_ := Aside0.mk (below_step (by repeat (first | (with_reducible first | exact HB.out | apply below_alloc | apply pw_below_drewN | apply below_drew1) | exact HB.out)) hb); have n1_ := Aside0.mk (hbox); have n2_ := Aside0.mk ((by rw [hg]; exact (below_size (by repeat (first | (with_reducible first | exact HB.out | apply below_alloc | apply pw_below_drewN | apply below_drew1) | exact HB.out))) : w.heap.size ≤ gb259)); have n3_ := Aside0.mk ((by rw [hg]; exact (below_size (by repeat (first | (with_reducible first | exact HB.out | apply below_alloc | apply pw_below_drewN | apply below_drew1) | exact HB.out))) : w.heap.size ≤ gb259)); clear HB; have HB := n0_; have BK259 := n1_; have GW259 := n2_; have GE259 := n3_; clear n0_ n1_ n2_ n3_; clear hb hbox hg) | ((with_reducible refine gate_dst (N := 2) rfl ?_); refine box_event ?hg (N := 2) ?hd (cs := #[.int .u64 0, .int .u64 0, .int .u64 0, .int .u64 0, .int .i64 0, .int .i64 0]) (t := 36) ?hr ?_; (case hd => rfl); (case hg => rfl); (case hr => first | (go_simp; done) | (go_simp; rfl)); intro gb260 hg w4 hbox hb; have n0_ := Aside0.mk (blk_below (g := gb259) (o := .cells #[.int .u64 a0_0, .int .u64 a0_1, .int .u64 a0_2, .int .u64 a0_3, .int .i64 a0_4, .int .i64 a0_5] 36 (0, 0)) (by (with_reducible repeat (first | refine blk_drewN ?_ _ | refine blk_drew ?_ | refine blk_alloc ?_ _)); exact BK259.out) hb); have n1_ := Aside0.mk (below_step (by repeat (first | (with_reducible first | exact HB.out | apply below_alloc | apply pw_below_drewN | apply below_drew1 | refine below_set ?_ GE259.out) | exact HB.out)) hb); have n2_ := Aside0.mk (hbox); have n3_ := Aside0.mk ((by rw [hg]; exact (below_size (by repeat (first | (with_reducible first | exact HB.out | apply below_alloc | apply pw_below_drewN | apply below_drew1 | refine below_set ?_ GE259.out) | exact HB.out))) : w.heap.size ≤ gb260)); have n4_ := Aside0.mk ((by rw [hg]; exact (below_size (by repeat (first | (with_reducible first | exact HB.out | apply below_alloc | apply pw_below_drewN | apply below_drew1 | refine below_set ?_ GE259.out) | exact HB.out))) : w.heap.size ≤ gb260)); have n5_ := Aside0.mk ((by rw [hg]; exact Nat.ne_of_lt (blk_lt (g := gb259) (o := .cells #[.int .u64 a0_0, .int .u64 a0_1, .int .u64 a0_2, .int .u64 a0_3, .int .i64 a0_4, .int .i64 a0_5] 36 (0, 0)) (by (with_reducible repeat (first | refine blk_drewN ?_ _ | refine blk_drew ?_ | refine blk_alloc ?_ _)); exact BK259.out)) : gb259 ≠ gb260)); have n6_ := Aside0.mk ((by rw [hg]; exact Nat.ne_of_gt (blk_lt (g := gb259) (o := .cells #[.int .u64 a0_0, .int .u64 a0_1, .int .u64 a0_2, .int .u64 a0_3, .int .i64 a0_4, .int .i64 a0_5] 36 (0, 0)) (by (with_reducible repeat (first | refine blk_drewN ?_ _ | refine blk_drew ?_ | refine blk_alloc ?_ _)); exact BK259.out)) : gb260 ≠ gb259)); clear BK259; clear HB; have BK259 := n0_; have HB := n1_; have BK260 := n2_; have GW260 := n3_; have GE260 := n4_; have NB259_260 := n5_; have NB260_259 := n6_; clear n0_ n1_ n2_ n3_ n4_ n5_ n6_; clear hb hbox hg; have hnb5 := NB259_260.out; have hnc5 := NB260_259.out; have hcz6_0 : w4.cell? ⟨gb259, 0, none⟩ = some (.int .u64 a0_0) := (blk_cell BK259.out 0).trans rfl; have hcz6_1 : w4.cell? ⟨gb259, 1, none⟩ = some (.int .u64 a0_1) := (blk_cell BK259.out 1).trans rfl; have hcz6_2 : w4.cell? ⟨gb259, 2, none⟩ = some (.int .u64 a0_2) := (blk_cell BK259.out 2).trans rfl; have hcz6_3 : w4.cell? ⟨gb259, 3, none⟩ = some (.int .u64 a0_3) := (blk_cell BK259.out 3).trans rfl; have hcz6_4 : w4.cell? ⟨gb259, 4, none⟩ = some (.int .i64 a0_4) := (blk_cell BK259.out 4).trans rfl; have hcz6_5 : w4.cell? ⟨gb259, 5, none⟩ = some (.int .i64 a0_5) := (blk_cell BK259.out 5).trans rfl; have hfz6_0 := blk_frozen BK259.out 0; have hfz6_1 := blk_frozen BK259.out 1; have hfz6_2 := blk_frozen BK259.out 2; have hfz6_3 := blk_frozen BK259.out 3; have hfz6_4 := blk_frozen BK259.out 4; have hfz6_5 := blk_frozen BK259.out 5))
 (try simp only [Act.put, List.setIfInBounds_toArray, List.set_cons_zero, List.set_cons_succ])
 go_cut [] (fun wc => ∃ (kq : Nat) (x260002_1 : Int), Aside0 (halberdref07_Round.j0 kq (Go.bits .andNot .u64 a0_0 a0_1) (IntKind.u64.wrap ((Go.bits .andNot .u64 a0_0 a0_1) + a0_1)) a0_0 a0_1 x260002_1 a0_3 a0_4 a0_5 = some (r1, r2, r3, r4, r5, r6, r7)) ∧ Aside0 (kq ≤ k) ∧ Aside0 (wc.heap[gb259]? = some (.cells #[.int .u64 a0_0, .int .u64 a0_1, .int .u64 x260002_1, .int .u64 a0_3, .int .i64 a0_4, .int .i64 a0_5] 36 (0, 0))) ∧ Aside0 (wc.heap[gb260]? = some (.cells #[.int .u64 0, .int .u64 0, .int .u64 0, .int .u64 0, .int .i64 0, .int .i64 0] 36 (0, 0))) ∧ Aside0 (Below w.heap.size w wc))
 case first => as_aux_lemma =>
  have H := HC2.out
  clear HC2
  by_cases c7 : a0_2 < (Go.bits .andNot .u64 a0_0 a0_1)
  ·rw [if_pos c7] at H
   have c7b0 : decide (a0_2 < (Go.bits .andNot .u64 a0_0 a0_1)) = true := decide_eq_true c7
   clear c7
   (first | rw [c7b0] | (simp only [i64_w, i32_w]; rw [c7b0]) | skip)
   have H' := Aside0.mk H
   clear H
   have hnb8 := NB259_260.out
   have hnc8 := NB260_259.out
   have hcz9_0 : w4.cell? ⟨gb259, 0, none⟩ = some (.int .u64 a0_0) := (blk_cell BK259.out 0).trans rfl
   have hcz9_1 : w4.cell? ⟨gb259, 1, none⟩ = some (.int .u64 a0_1) := (blk_cell BK259.out 1).trans rfl
   have hcz9_2 : w4.cell? ⟨gb259, 2, none⟩ = some (.int .u64 a0_2) := (blk_cell BK259.out 2).trans rfl
   have hcz9_3 : w4.cell? ⟨gb259, 3, none⟩ = some (.int .u64 a0_3) := (blk_cell BK259.out 3).trans rfl
   have hcz9_4 : w4.cell? ⟨gb259, 4, none⟩ = some (.int .i64 a0_4) := (blk_cell BK259.out 4).trans rfl
   have hcz9_5 : w4.cell? ⟨gb259, 5, none⟩ = some (.int .i64 a0_5) := (blk_cell BK259.out 5).trans rfl
   have hfz9_0 := blk_frozen BK259.out 0
   have hfz9_1 := blk_frozen BK259.out 1
   have hfz9_2 := blk_frozen BK259.out 2
   have hfz9_3 := blk_frozen BK259.out 3
   have hfz9_4 := blk_frozen BK259.out 4
   have hfz9_5 := blk_frozen BK259.out 5
   go_wp2
   go_meet
   case rel => exact ⟨_, (Go.bits .andNot .u64 a0_0 a0_1), H', ⟨by first | omega | exact Nat.le_refl _⟩, ⟨by (with_reducible repeat (first | refine blk_drewN ?_ _ | refine blk_drew ?_ | refine blk_alloc ?_ _)); refine blk_put (cs := #[.int .u64 a0_0, .int .u64 a0_1, .int .u64 a0_2, .int .u64 a0_3, .int .i64 a0_4, .int .i64 a0_5]) ?_ 2 _ rfl; (with_reducible repeat (first | refine blk_drewN ?_ _ | refine blk_drew ?_ | refine blk_alloc ?_ _)); exact BK259.out⟩, ⟨by (with_reducible repeat (first | refine blk_drewN ?_ _ | refine blk_drew ?_ | refine blk_alloc ?_ _)); refine blk_far ?_ NB260_259.out _; (with_reducible repeat (first | refine blk_drewN ?_ _ | refine blk_drew ?_ | refine blk_alloc ?_ _)); exact BK260.out⟩, ⟨by repeat (first | (with_reducible first | exact HB.out | apply below_alloc | apply pw_below_drewN | apply below_drew1 | refine below_set ?_ GE259.out | refine below_set ?_ GE260.out) | exact HB.out)⟩⟩
  ·rw [if_neg c7] at H
   have c7b0 : decide (a0_2 < (Go.bits .andNot .u64 a0_0 a0_1)) = false := decide_eq_false c7
   clear c7
   (first | rw [c7b0] | (simp only [i64_w, i32_w]; rw [c7b0]) | skip)
   have H' := Aside0.mk H
   clear H
   go_wp2
   go_meet
   case rel => exact ⟨_, (a0_2), H', ⟨by first | omega | exact Nat.le_refl _⟩, ⟨by (with_reducible repeat (first | refine blk_drewN ?_ _ | refine blk_drew ?_ | refine blk_alloc ?_ _)); exact BK259.out⟩, ⟨by (with_reducible repeat (first | refine blk_drewN ?_ _ | refine blk_drew ?_ | refine blk_alloc ?_ _)); exact BK260.out⟩, ⟨by repeat (first | (with_reducible first | exact HB.out | apply below_alloc | apply pw_below_drewN | apply below_drew1 | refine below_set ?_ GE259.out | refine below_set ?_ GE260.out) | exact HB.out)⟩⟩
 case rest =>
  clear HC2
  try clear p2
  try clear c5
  try clear c7
  try clear c7b0
  try clear c8
  try clear hcz6_0
  try clear hcz6_1
  try clear hcz6_2
  try clear hcz6_3
  try clear hcz6_4
  try clear hcz6_5
  try clear hcz9_0
  try clear hcz9_1
  try clear hcz9_2
  try clear hcz9_3
  try clear hcz9_4
  try clear hcz9_5
  try clear hfz6_0
  try clear hfz6_1
  try clear hfz6_2
  try clear hfz6_3
  try clear hfz6_4
  try clear hfz6_5
  try clear hfz9_0
  try clear hfz9_1
  try clear hfz9_2
  try clear hfz9_3
  try clear hfz9_4
  try clear hfz9_5
  obtain ⟨kq, x260002_1, HA, HJ1, BK259, BK260, HB⟩ := hcut
  cases kq with
  | zero => exact absurd HA.out (by simp [halberdref07_Round.j0])
  | succ kj1 =>
   have H := HA.out
   clear HA
   simp only [halberdref07_Round.j0] at H
   have HC10 := Aside0.mk H
   clear H
   have hnb11 := NB259_260.out
   have hnc11 := NB260_259.out
   have hcz12_0 : wc.cell? ⟨gb259, 0, none⟩ = some (.int .u64 a0_0) := (blk_cell BK259.out 0).trans rfl
   have hcz12_1 : wc.cell? ⟨gb259, 1, none⟩ = some (.int .u64 a0_1) := (blk_cell BK259.out 1).trans rfl
   have hcz12_2 : wc.cell? ⟨gb259, 2, none⟩ = some (.int .u64 x260002_1) := (blk_cell BK259.out 2).trans rfl
   have hcz12_3 : wc.cell? ⟨gb259, 3, none⟩ = some (.int .u64 a0_3) := (blk_cell BK259.out 3).trans rfl
   have hcz12_4 : wc.cell? ⟨gb259, 4, none⟩ = some (.int .i64 a0_4) := (blk_cell BK259.out 4).trans rfl
   have hcz12_5 : wc.cell? ⟨gb259, 5, none⟩ = some (.int .i64 a0_5) := (blk_cell BK259.out 5).trans rfl
   have hfz12_0 := blk_frozen BK259.out 0
   have hfz12_1 := blk_frozen BK259.out 1
   have hfz12_2 := blk_frozen BK259.out 2
   have hfz12_3 := blk_frozen BK259.out 3
   have hfz12_4 := blk_frozen BK259.out 4
   have hfz12_5 := blk_frozen BK259.out 5
   go_upto_if 32 with (fail)
   go_cut [] (fun wc => ∃ (kq : Nat) (x260003_9 : Int), Aside0 (halberdref07_Round.j1 kq (Go.bits .andNot .u64 a0_0 a0_1) (IntKind.u64.wrap ((Go.bits .andNot .u64 a0_0 a0_1) + a0_1)) a0_0 a0_1 x260002_1 x260003_9 a0_4 a0_5 = some (r1, r2, r3, r4, r5, r6, r7)) ∧ Aside0 (kq ≤ kj1) ∧ Aside0 (wc.heap[gb259]? = some (.cells #[.int .u64 a0_0, .int .u64 a0_1, .int .u64 x260002_1, .int .u64 x260003_9, .int .i64 a0_4, .int .i64 a0_5] 36 (0, 0))) ∧ Aside0 (wc.heap[gb260]? = some (.cells #[.int .u64 0, .int .u64 0, .int .u64 0, .int .u64 0, .int .i64 0, .int .i64 0] 36 (0, 0))) ∧ Aside0 (Below w.heap.size w wc))
   case first => as_aux_lemma =>
    have H := HC10.out
    clear HC10
    by_cases c13 : a0_3 > (IntKind.u64.wrap ((Go.bits .andNot .u64 a0_0 a0_1) + a0_1))
    ·rw [if_pos c13] at H
     have c13b0 : decide ((IntKind.u64.wrap ((Go.bits .andNot .u64 a0_0 a0_1) + a0_1)) < a0_3) = true := decide_eq_true c13
     clear c13
     (first | rw [c13b0] | (simp only [i64_w, i32_w]; rw [c13b0]) | skip)
     have H' := Aside0.mk H
     clear H
     have hnb14 := NB259_260.out
     have hnc14 := NB260_259.out
     have hcz15_0 : wc.cell? ⟨gb259, 0, none⟩ = some (.int .u64 a0_0) := (blk_cell BK259.out 0).trans rfl
     have hcz15_1 : wc.cell? ⟨gb259, 1, none⟩ = some (.int .u64 a0_1) := (blk_cell BK259.out 1).trans rfl
     have hcz15_2 : wc.cell? ⟨gb259, 2, none⟩ = some (.int .u64 x260002_1) := (blk_cell BK259.out 2).trans rfl
     have hcz15_3 : wc.cell? ⟨gb259, 3, none⟩ = some (.int .u64 a0_3) := (blk_cell BK259.out 3).trans rfl
     have hcz15_4 : wc.cell? ⟨gb259, 4, none⟩ = some (.int .i64 a0_4) := (blk_cell BK259.out 4).trans rfl
     have hcz15_5 : wc.cell? ⟨gb259, 5, none⟩ = some (.int .i64 a0_5) := (blk_cell BK259.out 5).trans rfl
     have hfz15_0 := blk_frozen BK259.out 0
     have hfz15_1 := blk_frozen BK259.out 1
     have hfz15_2 := blk_frozen BK259.out 2
     have hfz15_3 := blk_frozen BK259.out 3
     have hfz15_4 := blk_frozen BK259.out 4
     have hfz15_5 := blk_frozen BK259.out 5
     go_wp2
     go_meet
     case rel => exact ⟨_, ((IntKind.u64.wrap ((Go.bits .andNot .u64 a0_0 a0_1) + a0_1))), H', ⟨by have := HJ1.out; first | omega | exact Nat.le_refl _⟩, ⟨by (with_reducible repeat (first | refine blk_drewN ?_ _ | refine blk_drew ?_ | refine blk_alloc ?_ _)); refine blk_put (cs := #[.int .u64 a0_0, .int .u64 a0_1, .int .u64 x260002_1, .int .u64 a0_3, .int .i64 a0_4, .int .i64 a0_5]) ?_ 3 _ rfl; (with_reducible repeat (first | refine blk_drewN ?_ _ | refine blk_drew ?_ | refine blk_alloc ?_ _)); exact BK259.out⟩, ⟨by (with_reducible repeat (first | refine blk_drewN ?_ _ | refine blk_drew ?_ | refine blk_alloc ?_ _)); refine blk_far ?_ NB260_259.out _; (with_reducible repeat (first | refine blk_drewN ?_ _ | refine blk_drew ?_ | refine blk_alloc ?_ _)); exact BK260.out⟩, ⟨by repeat (first | (with_reducible first | exact HB.out | apply below_alloc | apply pw_below_drewN | apply below_drew1 | refine below_set ?_ GE259.out | refine below_set ?_ GE260.out) | exact HB.out)⟩⟩
    ·rw [if_neg c13] at H
     have c13b0 : decide ((IntKind.u64.wrap ((Go.bits .andNot .u64 a0_0 a0_1) + a0_1)) < a0_3) = false := decide_eq_false c13
     clear c13
     (first | rw [c13b0] | (simp only [i64_w, i32_w]; rw [c13b0]) | skip)
     have H' := Aside0.mk H
     clear H
     go_wp2
     go_meet
     case rel => exact ⟨_, (a0_3), H', ⟨by have := HJ1.out; first | omega | exact Nat.le_refl _⟩, ⟨by (with_reducible repeat (first | refine blk_drewN ?_ _ | refine blk_drew ?_ | refine blk_alloc ?_ _)); exact BK259.out⟩, ⟨by (with_reducible repeat (first | refine blk_drewN ?_ _ | refine blk_drew ?_ | refine blk_alloc ?_ _)); exact BK260.out⟩, ⟨by repeat (first | (with_reducible first | exact HB.out | apply below_alloc | apply pw_below_drewN | apply below_drew1 | refine below_set ?_ GE259.out | refine below_set ?_ GE260.out) | exact HB.out)⟩⟩
   case rest =>
    clear HC10
    try clear c1
    try clear p2
    try clear c5
    try clear c7
    try clear c7b0
    try clear c8
    try clear c11
    try clear c13
    try clear c13b0
    try clear c14
    try clear hcz12_0
    try clear hcz12_1
    try clear hcz12_2
    try clear hcz12_3
    try clear hcz12_4
    try clear hcz12_5
    try clear hcz15_0
    try clear hcz15_1
    try clear hcz15_2
    try clear hcz15_3
    try clear hcz15_4
    try clear hcz15_5
    try clear hcz6_0
    try clear hcz6_1
    try clear hcz6_2
    try clear hcz6_3
    try clear hcz6_4
    try clear hcz6_5
    try clear hcz9_0
    try clear hcz9_1
    try clear hcz9_2
    try clear hcz9_3
    try clear hcz9_4
    try clear hcz9_5
    try clear hfz12_0
    try clear hfz12_1
    try clear hfz12_2
    try clear hfz12_3
    try clear hfz12_4
    try clear hfz12_5
    try clear hfz15_0
    try clear hfz15_1
    try clear hfz15_2
    try clear hfz15_3
    try clear hfz15_4
    try clear hfz15_5
    try clear hfz6_0
    try clear hfz6_1
    try clear hfz6_2
    try clear hfz6_3
    try clear hfz6_4
    try clear hfz6_5
    try clear hfz9_0
    try clear hfz9_1
    try clear hfz9_2
    try clear hfz9_3
    try clear hfz9_4
    try clear hfz9_5
    try clear p2
    obtain ⟨kq, x260003_9, HA, HJ9, BK259, BK260, HB⟩ := hcut
    cases kq with
    | zero => exact absurd HA.out (by simp [halberdref07_Round.j1])
    | succ kj9 =>
     have H := HA.out
     clear HA
     simp only [halberdref07_Round.j1] at H
     have HC16 := Aside0.mk H
     clear H
     go_upto_region 9 with (fail)
     go_cut [44] (fun v44 wc => ∃ (kq : Nat) (x44_15 : Bool), v44 = .bool x44_15 ∧ Aside0 (halberdref07_Round.j2 kq (Go.bits .andNot .u64 a0_0 a0_1) (IntKind.u64.wrap ((Go.bits .andNot .u64 a0_0 a0_1) + a0_1)) 9223372036854775808 (Go.bits .andNot .u64 a0_0 a0_1) (IntKind.u64.wrap ((Go.bits .andNot .u64 a0_0 a0_1) + a0_1)) x44_15 a0_0 a0_1 x260002_1 x260003_9 a0_4 a0_5 = some (r1, r2, r3, r4, r5, r6, r7)) ∧ Aside0 (kq ≤ kj9) ∧ Aside0 (wc.heap[gb259]? = some (.cells #[.int .u64 a0_0, .int .u64 a0_1, .int .u64 x260002_1, .int .u64 x260003_9, .int .i64 a0_4, .int .i64 a0_5] 36 (0, 0))) ∧ Aside0 (wc.heap[gb260]? = some (.cells #[.int .u64 0, .int .u64 0, .int .u64 0, .int .u64 0, .int .i64 0, .int .i64 0] 36 (0, 0))) ∧ Aside0 (Below w.heap.size w wc))
     case first => as_aux_lemma =>
      have H := HC16.out
      clear HC16
      by_cases c17 : (IntKind.u64.wrap ((Go.bits .andNot .u64 a0_0 a0_1) + a0_1)) ≥ 9223372036854775808
      ·rw [if_pos c17] at H
       have c17b0 : decide (9223372036854775808 ≤ (IntKind.u64.wrap ((Go.bits .andNot .u64 a0_0 a0_1) + a0_1))) = true := decide_eq_true c17
       clear c17
       (first | rw [c17b0] | (simp only [i64_w, i32_w]; rw [c17b0]) | skip)
       have H' := Aside0.mk H
       clear H
       go_wp2
       go_meet
       case rel => exact ⟨_, (decide ((Go.bits .andNot .u64 a0_0 a0_1) < 9223372036854775808)), (by first | rfl | (simp; done) | (simp [*]; done)), H', ⟨by have := HJ1.out; have := HJ9.out; first | omega | exact Nat.le_refl _⟩, ⟨by (with_reducible repeat (first | refine blk_drewN ?_ _ | refine blk_drew ?_ | refine blk_alloc ?_ _)); exact BK259.out⟩, ⟨by (with_reducible repeat (first | refine blk_drewN ?_ _ | refine blk_drew ?_ | refine blk_alloc ?_ _)); exact BK260.out⟩, ⟨by repeat (first | (with_reducible first | exact HB.out | apply below_alloc | apply pw_below_drewN | apply below_drew1 | refine below_set ?_ GE259.out | refine below_set ?_ GE260.out) | exact HB.out)⟩⟩
      ·rw [if_neg c17] at H
       have c17b0 : decide (9223372036854775808 ≤ (IntKind.u64.wrap ((Go.bits .andNot .u64 a0_0 a0_1) + a0_1))) = false := decide_eq_false c17
       clear c17
       (first | rw [c17b0] | (simp only [i64_w, i32_w]; rw [c17b0]) | skip)
       have H' := Aside0.mk H
       clear H
       go_wp2
       go_meet
       case rel => exact ⟨_, (false), (by first | rfl | (simp; done) | (simp [*]; done)), H', ⟨by have := HJ1.out; have := HJ9.out; first | omega | exact Nat.le_refl _⟩, ⟨by (with_reducible repeat (first | refine blk_drewN ?_ _ | refine blk_drew ?_ | refine blk_alloc ?_ _)); exact BK259.out⟩, ⟨by (with_reducible repeat (first | refine blk_drewN ?_ _ | refine blk_drew ?_ | refine blk_alloc ?_ _)); exact BK260.out⟩, ⟨by repeat (first | (with_reducible first | exact HB.out | apply below_alloc | apply pw_below_drewN | apply below_drew1 | refine below_set ?_ GE259.out | refine below_set ?_ GE260.out) | exact HB.out)⟩⟩
     case rest =>
      clear HC16
      try clear c1
      try clear p2
      try clear c5
      try clear c7
      try clear c7b0
      try clear c8
      try clear c11
      try clear c13
      try clear c13b0
      try clear c14
      try clear c17
      try clear c17b0
      try clear hcz12_0
      try clear hcz12_1
      try clear hcz12_2
      try clear hcz12_3
      try clear hcz12_4
      try clear hcz12_5
      try clear hcz15_0
      try clear hcz15_1
      try clear hcz15_2
      try clear hcz15_3
      try clear hcz15_4
      try clear hcz15_5
      try clear hcz6_0
      try clear hcz6_1
      try clear hcz6_2
      try clear hcz6_3
      try clear hcz6_4
      try clear hcz6_5
      try clear hcz9_0
      try clear hcz9_1
      try clear hcz9_2
      try clear hcz9_3
      try clear hcz9_4
      try clear hcz9_5
      try clear hfz12_0
      try clear hfz12_1
      try clear hfz12_2
      try clear hfz12_3
      try clear hfz12_4
      try clear hfz12_5
      try clear hfz15_0
      try clear hfz15_1
      try clear hfz15_2
      try clear hfz15_3
      try clear hfz15_4
      try clear hfz15_5
      try clear hfz6_0
      try clear hfz6_1
      try clear hfz6_2
      try clear hfz6_3
      try clear hfz6_4
      try clear hfz6_5
      try clear hfz9_0
      try clear hfz9_1
      try clear hfz9_2
      try clear hfz9_3
      try clear hfz9_4
      try clear hfz9_5
      try clear p2
      obtain ⟨kq, x44_15, rfl, HA, HJ15, BK259, BK260, HB⟩ := hcut
      cases kq with
      | zero => exact absurd HA.out (by simp [halberdref07_Round.j2])
      | succ kj15 =>
       have H := HA.out
       clear HA
       simp only [halberdref07_Round.j2] at H
       have HC18 := Aside0.mk H
       clear H
       go_upto_if 44 with (fail)
       go_cut [7, 8] (fun v7 v8 wc => ∃ (kq : Nat) (x7_17 : Int) (x8_17 : Int), v7 = .int .u64 x7_17 ∧ v8 = .int .u64 x8_17 ∧ Aside0 (halberdref07_Round.j3 kq 9223372036854775808 x7_17 x8_17 a0_0 a0_1 x260002_1 x260003_9 a0_4 a0_5 = some (r1, r2, r3, r4, r5, r6, r7)) ∧ Aside0 (kq ≤ kj15) ∧ Aside0 (wc.heap[gb259]? = some (.cells #[.int .u64 a0_0, .int .u64 a0_1, .int .u64 x260002_1, .int .u64 x260003_9, .int .i64 a0_4, .int .i64 a0_5] 36 (0, 0))) ∧ Aside0 (wc.heap[gb260]? = some (.cells #[.int .u64 0, .int .u64 0, .int .u64 0, .int .u64 0, .int .i64 0, .int .i64 0] 36 (0, 0))) ∧ Aside0 (Below w.heap.size w wc))
       case first => as_aux_lemma =>
        have H := HC18.out
        clear HC18
        by_cases c19 : x44_15 = true
        ·subst c19
         have H1 : (halberdref07_Round.j3 kj15 9223372036854775808 (IntKind.u64.wrap ((Go.bits .andNot .u64 a0_0 a0_1) + 9223372036854775808)) (IntKind.u64.wrap ((IntKind.u64.wrap ((Go.bits .andNot .u64 a0_0 a0_1) + a0_1)) - 9223372036854775808)) a0_0 a0_1 x260002_1 x260003_9 a0_4 a0_5) = some (r1, r2, r3, r4, r5, r6, r7) := by rw [if_pos rfl] at H; exact H
         clear H
         have H := H1
         clear H1
         have H' := Aside0.mk H
         clear H
         go_wp2
         go_meet
         case rel => exact ⟨_, (IntKind.u64.wrap ((Go.bits .andNot .u64 a0_0 a0_1) + 9223372036854775808)), (IntKind.u64.wrap ((IntKind.u64.wrap ((Go.bits .andNot .u64 a0_0 a0_1) + a0_1)) - 9223372036854775808)), (by first | rfl | (simp; done) | (simp [*]; done)), (by first | rfl | (simp; done) | (simp [*]; done)), H', ⟨by have := HJ1.out; have := HJ9.out; have := HJ15.out; first | omega | exact Nat.le_refl _⟩, ⟨by (with_reducible repeat (first | refine blk_drewN ?_ _ | refine blk_drew ?_ | refine blk_alloc ?_ _)); exact BK259.out⟩, ⟨by (with_reducible repeat (first | refine blk_drewN ?_ _ | refine blk_drew ?_ | refine blk_alloc ?_ _)); exact BK260.out⟩, ⟨by repeat (first | (with_reducible first | exact HB.out | apply below_alloc | apply pw_below_drewN | apply below_drew1 | refine below_set ?_ GE259.out | refine below_set ?_ GE260.out) | exact HB.out)⟩⟩
        ·replace c19 := Bool.eq_false_iff.mpr c19
         subst c19
         have H1 : (halberdref07_Round.j3 kj15 9223372036854775808 (Go.bits .andNot .u64 a0_0 a0_1) (IntKind.u64.wrap ((Go.bits .andNot .u64 a0_0 a0_1) + a0_1)) a0_0 a0_1 x260002_1 x260003_9 a0_4 a0_5) = some (r1, r2, r3, r4, r5, r6, r7) := by rw [if_neg (show ¬ (false = true) by decide)] at H; exact H
         clear H
         have H := H1
         clear H1
         have H' := Aside0.mk H
         clear H
         go_wp2
         go_meet
         case rel => exact ⟨_, ((Go.bits .andNot .u64 a0_0 a0_1)), ((IntKind.u64.wrap ((Go.bits .andNot .u64 a0_0 a0_1) + a0_1))), (by first | rfl | (simp; done) | (simp [*]; done)), (by first | rfl | (simp; done) | (simp [*]; done)), H', ⟨by have := HJ1.out; have := HJ9.out; have := HJ15.out; first | omega | exact Nat.le_refl _⟩, ⟨by (with_reducible repeat (first | refine blk_drewN ?_ _ | refine blk_drew ?_ | refine blk_alloc ?_ _)); exact BK259.out⟩, ⟨by (with_reducible repeat (first | refine blk_drewN ?_ _ | refine blk_drew ?_ | refine blk_alloc ?_ _)); exact BK260.out⟩, ⟨by repeat (first | (with_reducible first | exact HB.out | apply below_alloc | apply pw_below_drewN | apply below_drew1 | refine below_set ?_ GE259.out | refine below_set ?_ GE260.out) | exact HB.out)⟩⟩
       case rest =>
        clear HC18
        try clear c1
        try clear p2
        try clear c5
        try clear c7
        try clear c7b0
        try clear c8
        try clear c11
        try clear c13
        try clear c13b0
        try clear c14
        try clear c17
        try clear c17b0
        try clear c19
        try clear hcz12_0
        try clear hcz12_1
        try clear hcz12_2
        try clear hcz12_3
        try clear hcz12_4
        try clear hcz12_5
        try clear hcz15_0
        try clear hcz15_1
        try clear hcz15_2
        try clear hcz15_3
        try clear hcz15_4
        try clear hcz15_5
        try clear hcz6_0
        try clear hcz6_1
        try clear hcz6_2
        try clear hcz6_3
        try clear hcz6_4
        try clear hcz6_5
        try clear hcz9_0
        try clear hcz9_1
        try clear hcz9_2
        try clear hcz9_3
        try clear hcz9_4
        try clear hcz9_5
        try clear hfz12_0
        try clear hfz12_1
        try clear hfz12_2
        try clear hfz12_3
        try clear hfz12_4
        try clear hfz12_5
        try clear hfz15_0
        try clear hfz15_1
        try clear hfz15_2
        try clear hfz15_3
        try clear hfz15_4
        try clear hfz15_5
        try clear hfz6_0
        try clear hfz6_1
        try clear hfz6_2
        try clear hfz6_3
        try clear hfz6_4
        try clear hfz6_5
        try clear hfz9_0
        try clear hfz9_1
        try clear hfz9_2
        try clear hfz9_3
        try clear hfz9_4
        try clear hfz9_5
        try clear p2
        obtain ⟨kq, x7_17, x8_17, rfl, rfl, HA, HJ17, BK259, BK260, HB⟩ := hcut
        cases kq with
        | zero => exact absurd HA.out (by simp [halberdref07_Round.j3])
        | succ kj17 =>
         have H := HA.out
         clear HA
         simp only [halberdref07_Round.j3] at H
         have HC20 := Aside0.mk H
         clear H
         have hnb21 := NB259_260.out
         have hnc21 := NB260_259.out
         have hcz22_0 : wc.cell? ⟨gb259, 0, none⟩ = some (.int .u64 a0_0) := (blk_cell BK259.out 0).trans rfl
         have hcz22_1 : wc.cell? ⟨gb259, 1, none⟩ = some (.int .u64 a0_1) := (blk_cell BK259.out 1).trans rfl
         have hcz22_2 : wc.cell? ⟨gb259, 2, none⟩ = some (.int .u64 x260002_1) := (blk_cell BK259.out 2).trans rfl
         have hcz22_3 : wc.cell? ⟨gb259, 3, none⟩ = some (.int .u64 x260003_9) := (blk_cell BK259.out 3).trans rfl
         have hcz22_4 : wc.cell? ⟨gb259, 4, none⟩ = some (.int .i64 a0_4) := (blk_cell BK259.out 4).trans rfl
         have hcz22_5 : wc.cell? ⟨gb259, 5, none⟩ = some (.int .i64 a0_5) := (blk_cell BK259.out 5).trans rfl
         have hfz22_0 := blk_frozen BK259.out 0
         have hfz22_1 := blk_frozen BK259.out 1
         have hfz22_2 := blk_frozen BK259.out 2
         have hfz22_3 := blk_frozen BK259.out 3
         have hfz22_4 := blk_frozen BK259.out 4
         have hfz22_5 := blk_frozen BK259.out 5
         go_upto_if 55 with (fail)
         go_cut [] (fun wc => ∃ (kq : Nat) (x260004_19 : Int), Aside0 (halberdref07_Round.j4 kq 9223372036854775808 x8_17 a0_0 a0_1 x260002_1 x260003_9 x260004_19 a0_5 = some (r1, r2, r3, r4, r5, r6, r7)) ∧ Aside0 (kq ≤ kj17) ∧ Aside0 (wc.heap[gb259]? = some (.cells #[.int .u64 a0_0, .int .u64 a0_1, .int .u64 x260002_1, .int .u64 x260003_9, .int .i64 x260004_19, .int .i64 a0_5] 36 (0, 0))) ∧ Aside0 (wc.heap[gb260]? = some (.cells #[.int .u64 0, .int .u64 0, .int .u64 0, .int .u64 0, .int .i64 0, .int .i64 0] 36 (0, 0))) ∧ Aside0 (Below w.heap.size w wc))
         case first => as_aux_lemma =>
          have H := HC20.out
          clear HC20
          by_cases c23 : a0_4 < (wrap64 (x7_17))
          ·rw [if_pos c23] at H
           have c23b0 : decide (a0_4 < (wrap64 (x7_17))) = true := decide_eq_true c23
           clear c23
           (first | rw [c23b0] | (simp only [i64_w, i32_w]; rw [c23b0]) | skip)
           have H' := Aside0.mk H
           clear H
           have hnb24 := NB259_260.out
           have hnc24 := NB260_259.out
           have hcz25_0 : wc.cell? ⟨gb259, 0, none⟩ = some (.int .u64 a0_0) := (blk_cell BK259.out 0).trans rfl
           have hcz25_1 : wc.cell? ⟨gb259, 1, none⟩ = some (.int .u64 a0_1) := (blk_cell BK259.out 1).trans rfl
           have hcz25_2 : wc.cell? ⟨gb259, 2, none⟩ = some (.int .u64 x260002_1) := (blk_cell BK259.out 2).trans rfl
           have hcz25_3 : wc.cell? ⟨gb259, 3, none⟩ = some (.int .u64 x260003_9) := (blk_cell BK259.out 3).trans rfl
           have hcz25_4 : wc.cell? ⟨gb259, 4, none⟩ = some (.int .i64 a0_4) := (blk_cell BK259.out 4).trans rfl
           have hcz25_5 : wc.cell? ⟨gb259, 5, none⟩ = some (.int .i64 a0_5) := (blk_cell BK259.out 5).trans rfl
           have hfz25_0 := blk_frozen BK259.out 0
           have hfz25_1 := blk_frozen BK259.out 1
           have hfz25_2 := blk_frozen BK259.out 2
           have hfz25_3 := blk_frozen BK259.out 3
           have hfz25_4 := blk_frozen BK259.out 4
           have hfz25_5 := blk_frozen BK259.out 5
           go_wp2
           go_meet
           case rel => exact ⟨_, (wrap64 (x7_17)), H', ⟨by have := HJ1.out; have := HJ9.out; have := HJ15.out; have := HJ17.out; first | omega | exact Nat.le_refl _⟩, ⟨by (with_reducible repeat (first | refine blk_drewN ?_ _ | refine blk_drew ?_ | refine blk_alloc ?_ _)); refine blk_put (cs := #[.int .u64 a0_0, .int .u64 a0_1, .int .u64 x260002_1, .int .u64 x260003_9, .int .i64 a0_4, .int .i64 a0_5]) ?_ 4 _ rfl; (with_reducible repeat (first | refine blk_drewN ?_ _ | refine blk_drew ?_ | refine blk_alloc ?_ _)); exact BK259.out⟩, ⟨by (with_reducible repeat (first | refine blk_drewN ?_ _ | refine blk_drew ?_ | refine blk_alloc ?_ _)); refine blk_far ?_ NB260_259.out _; (with_reducible repeat (first | refine blk_drewN ?_ _ | refine blk_drew ?_ | refine blk_alloc ?_ _)); exact BK260.out⟩, ⟨by repeat (first | (with_reducible first | exact HB.out | apply below_alloc | apply pw_below_drewN | apply below_drew1 | refine below_set ?_ GE259.out | refine below_set ?_ GE260.out) | exact HB.out)⟩⟩
          ·rw [if_neg c23] at H
           have c23b0 : decide (a0_4 < (wrap64 (x7_17))) = false := decide_eq_false c23
           clear c23
           (first | rw [c23b0] | (simp only [i64_w, i32_w]; rw [c23b0]) | skip)
           have H' := Aside0.mk H
           clear H
           go_wp2
           go_meet
           case rel => exact ⟨_, (a0_4), H', ⟨by have := HJ1.out; have := HJ9.out; have := HJ15.out; have := HJ17.out; first | omega | exact Nat.le_refl _⟩, ⟨by (with_reducible repeat (first | refine blk_drewN ?_ _ | refine blk_drew ?_ | refine blk_alloc ?_ _)); exact BK259.out⟩, ⟨by (with_reducible repeat (first | refine blk_drewN ?_ _ | refine blk_drew ?_ | refine blk_alloc ?_ _)); exact BK260.out⟩, ⟨by repeat (first | (with_reducible first | exact HB.out | apply below_alloc | apply pw_below_drewN | apply below_drew1 | refine below_set ?_ GE259.out | refine below_set ?_ GE260.out) | exact HB.out)⟩⟩
         case rest =>
          clear HC20
          try clear c1
          try clear c2
          try clear p2
          try clear c5
          try clear p6
          try clear c7
          try clear c7b0
          try clear c8
          try clear c11
          try clear c13
          try clear c13b0
          try clear c14
          try clear c17
          try clear c17b0
          try clear c19
          try clear c21
          try clear c23
          try clear c23b0
          try clear c24
          try clear hcz12_0
          try clear hcz12_1
          try clear hcz12_2
          try clear hcz12_3
          try clear hcz12_4
          try clear hcz12_5
          try clear hcz15_0
          try clear hcz15_1
          try clear hcz15_2
          try clear hcz15_3
          try clear hcz15_4
          try clear hcz15_5
          try clear hcz22_0
          try clear hcz22_1
          try clear hcz22_2
          try clear hcz22_3
          try clear hcz22_4
          try clear hcz22_5
          try clear hcz25_0
          try clear hcz25_1
          try clear hcz25_2
          try clear hcz25_3
          try clear hcz25_4
          try clear hcz25_5
          try clear hcz6_0
          try clear hcz6_1
          try clear hcz6_2
          try clear hcz6_3
          try clear hcz6_4
          try clear hcz6_5
          try clear hcz9_0
          try clear hcz9_1
          try clear hcz9_2
          try clear hcz9_3
          try clear hcz9_4
          try clear hcz9_5
          try clear hfz12_0
          try clear hfz12_1
          try clear hfz12_2
          try clear hfz12_3
          try clear hfz12_4
          try clear hfz12_5
          try clear hfz15_0
          try clear hfz15_1
          try clear hfz15_2
          try clear hfz15_3
          try clear hfz15_4
          try clear hfz15_5
          try clear hfz22_0
          try clear hfz22_1
          try clear hfz22_2
          try clear hfz22_3
          try clear hfz22_4
          try clear hfz22_5
          try clear hfz25_0
          try clear hfz25_1
          try clear hfz25_2
          try clear hfz25_3
          try clear hfz25_4
          try clear hfz25_5
          try clear hfz6_0
          try clear hfz6_1
          try clear hfz6_2
          try clear hfz6_3
          try clear hfz6_4
          try clear hfz6_5
          try clear hfz9_0
          try clear hfz9_1
          try clear hfz9_2
          try clear hfz9_3
          try clear hfz9_4
          try clear hfz9_5
          try clear p2
          obtain ⟨kq, x260004_19, HA, HJ19, BK259, BK260, HB⟩ := hcut
          cases kq with
          | zero => exact absurd HA.out (by simp [halberdref07_Round.j4])
          | succ kj19 =>
           have H := HA.out
           clear HA
           simp only [halberdref07_Round.j4] at H
           have HC26 := Aside0.mk H
           clear H
           have hnb27 := NB259_260.out
           have hnc27 := NB260_259.out
           have hcz28_0 : wc.cell? ⟨gb259, 0, none⟩ = some (.int .u64 a0_0) := (blk_cell BK259.out 0).trans rfl
           have hcz28_1 : wc.cell? ⟨gb259, 1, none⟩ = some (.int .u64 a0_1) := (blk_cell BK259.out 1).trans rfl
           have hcz28_2 : wc.cell? ⟨gb259, 2, none⟩ = some (.int .u64 x260002_1) := (blk_cell BK259.out 2).trans rfl
           have hcz28_3 : wc.cell? ⟨gb259, 3, none⟩ = some (.int .u64 x260003_9) := (blk_cell BK259.out 3).trans rfl
           have hcz28_4 : wc.cell? ⟨gb259, 4, none⟩ = some (.int .i64 x260004_19) := (blk_cell BK259.out 4).trans rfl
           have hcz28_5 : wc.cell? ⟨gb259, 5, none⟩ = some (.int .i64 a0_5) := (blk_cell BK259.out 5).trans rfl
           have hfz28_0 := blk_frozen BK259.out 0
           have hfz28_1 := blk_frozen BK259.out 1
           have hfz28_2 := blk_frozen BK259.out 2
           have hfz28_3 := blk_frozen BK259.out 3
           have hfz28_4 := blk_frozen BK259.out 4
           have hfz28_5 := blk_frozen BK259.out 5
           go_upto_if 63 with (fail)
           go_cut [] (fun wc => ∃ (kq : Nat) (x260005_25 : Int), Aside0 (halberdref07_Round.j5 kq 9223372036854775808 a0_0 a0_1 x260002_1 x260003_9 x260004_19 x260005_25 = some (r1, r2, r3, r4, r5, r6, r7)) ∧ Aside0 (kq ≤ kj19) ∧ Aside0 (wc.heap[gb259]? = some (.cells #[.int .u64 a0_0, .int .u64 a0_1, .int .u64 x260002_1, .int .u64 x260003_9, .int .i64 x260004_19, .int .i64 x260005_25] 36 (0, 0))) ∧ Aside0 (wc.heap[gb260]? = some (.cells #[.int .u64 0, .int .u64 0, .int .u64 0, .int .u64 0, .int .i64 0, .int .i64 0] 36 (0, 0))) ∧ Aside0 (Below w.heap.size w wc))
           case first => as_aux_lemma =>
            have H := HC26.out
            clear HC26
            by_cases c29 : a0_5 > (wrap64 (x8_17))
            ·rw [if_pos c29] at H
             have c29b0 : decide ((wrap64 (x8_17)) < a0_5) = true := decide_eq_true c29
             clear c29
             (first | rw [c29b0] | (simp only [i64_w, i32_w]; rw [c29b0]) | skip)
             have H' := Aside0.mk H
             clear H
             have hnb30 := NB259_260.out
             have hnc30 := NB260_259.out
             have hcz31_0 : wc.cell? ⟨gb259, 0, none⟩ = some (.int .u64 a0_0) := (blk_cell BK259.out 0).trans rfl
             have hcz31_1 : wc.cell? ⟨gb259, 1, none⟩ = some (.int .u64 a0_1) := (blk_cell BK259.out 1).trans rfl
             have hcz31_2 : wc.cell? ⟨gb259, 2, none⟩ = some (.int .u64 x260002_1) := (blk_cell BK259.out 2).trans rfl
             have hcz31_3 : wc.cell? ⟨gb259, 3, none⟩ = some (.int .u64 x260003_9) := (blk_cell BK259.out 3).trans rfl
             have hcz31_4 : wc.cell? ⟨gb259, 4, none⟩ = some (.int .i64 x260004_19) := (blk_cell BK259.out 4).trans rfl
             have hcz31_5 : wc.cell? ⟨gb259, 5, none⟩ = some (.int .i64 a0_5) := (blk_cell BK259.out 5).trans rfl
             have hfz31_0 := blk_frozen BK259.out 0
             have hfz31_1 := blk_frozen BK259.out 1
             have hfz31_2 := blk_frozen BK259.out 2
             have hfz31_3 := blk_frozen BK259.out 3
             have hfz31_4 := blk_frozen BK259.out 4
             have hfz31_5 := blk_frozen BK259.out 5
             go_wp2
             go_meet
             case rel => exact ⟨_, (wrap64 (x8_17)), H', ⟨by have := HJ1.out; have := HJ9.out; have := HJ15.out; have := HJ17.out; have := HJ19.out; first | omega | exact Nat.le_refl _⟩, ⟨by (with_reducible repeat (first | refine blk_drewN ?_ _ | refine blk_drew ?_ | refine blk_alloc ?_ _)); refine blk_put (cs := #[.int .u64 a0_0, .int .u64 a0_1, .int .u64 x260002_1, .int .u64 x260003_9, .int .i64 x260004_19, .int .i64 a0_5]) ?_ 5 _ rfl; (with_reducible repeat (first | refine blk_drewN ?_ _ | refine blk_drew ?_ | refine blk_alloc ?_ _)); exact BK259.out⟩, ⟨by (with_reducible repeat (first | refine blk_drewN ?_ _ | refine blk_drew ?_ | refine blk_alloc ?_ _)); refine blk_far ?_ NB260_259.out _; (with_reducible repeat (first | refine blk_drewN ?_ _ | refine blk_drew ?_ | refine blk_alloc ?_ _)); exact BK260.out⟩, ⟨by repeat (first | (with_reducible first | exact HB.out | apply below_alloc | apply pw_below_drewN | apply below_drew1 | refine below_set ?_ GE259.out | refine below_set ?_ GE260.out) | exact HB.out)⟩⟩
            ·rw [if_neg c29] at H
             have c29b0 : decide ((wrap64 (x8_17)) < a0_5) = false := decide_eq_false c29
             clear c29
             (first | rw [c29b0] | (simp only [i64_w, i32_w]; rw [c29b0]) | skip)
             have H' := Aside0.mk H
             clear H
             go_wp2
             go_meet
             case rel => exact ⟨_, (a0_5), H', ⟨by have := HJ1.out; have := HJ9.out; have := HJ15.out; have := HJ17.out; have := HJ19.out; first | omega | exact Nat.le_refl _⟩, ⟨by (with_reducible repeat (first | refine blk_drewN ?_ _ | refine blk_drew ?_ | refine blk_alloc ?_ _)); exact BK259.out⟩, ⟨by (with_reducible repeat (first | refine blk_drewN ?_ _ | refine blk_drew ?_ | refine blk_alloc ?_ _)); exact BK260.out⟩, ⟨by repeat (first | (with_reducible first | exact HB.out | apply below_alloc | apply pw_below_drewN | apply below_drew1 | refine below_set ?_ GE259.out | refine below_set ?_ GE260.out) | exact HB.out)⟩⟩
           case rest =>
            clear HC26
            try clear c1
            try clear c2
            try clear p2
            try clear c3
            try clear c5
            try clear p6
            try clear c7
            try clear c7b0
            try clear c8
            try clear c11
            try clear c13
            try clear c13b0
            try clear c14
            try clear c17
            try clear c17b0
            try clear c19
            try clear c21
            try clear c23
            try clear c23b0
            try clear c24
            try clear c27
            try clear c29
            try clear c29b0
            try clear c30
            try clear hcz12_0
            try clear hcz12_1
            try clear hcz12_2
            try clear hcz12_3
            try clear hcz12_4
            try clear hcz12_5
            try clear hcz15_0
            try clear hcz15_1
            try clear hcz15_2
            try clear hcz15_3
            try clear hcz15_4
            try clear hcz15_5
            try clear hcz22_0
            try clear hcz22_1
            try clear hcz22_2
            try clear hcz22_3
            try clear hcz22_4
            try clear hcz22_5
            try clear hcz25_0
            try clear hcz25_1
            try clear hcz25_2
            try clear hcz25_3
            try clear hcz25_4
            try clear hcz25_5
            try clear hcz28_0
            try clear hcz28_1
            try clear hcz28_2
            try clear hcz28_3
            try clear hcz28_4
            try clear hcz28_5
            try clear hcz31_0
            try clear hcz31_1
            try clear hcz31_2
            try clear hcz31_3
            try clear hcz31_4
            try clear hcz31_5
            try clear hcz6_0
            try clear hcz6_1
            try clear hcz6_2
            try clear hcz6_3
            try clear hcz6_4
            try clear hcz6_5
            try clear hcz9_0
            try clear hcz9_1
            try clear hcz9_2
            try clear hcz9_3
            try clear hcz9_4
            try clear hcz9_5
            try clear hfz12_0
            try clear hfz12_1
            try clear hfz12_2
            try clear hfz12_3
            try clear hfz12_4
            try clear hfz12_5
            try clear hfz15_0
            try clear hfz15_1
            try clear hfz15_2
            try clear hfz15_3
            try clear hfz15_4
            try clear hfz15_5
            try clear hfz22_0
            try clear hfz22_1
            try clear hfz22_2
            try clear hfz22_3
            try clear hfz22_4
            try clear hfz22_5
            try clear hfz25_0
            try clear hfz25_1
            try clear hfz25_2
            try clear hfz25_3
            try clear hfz25_4
            try clear hfz25_5
            try clear hfz28_0
            try clear hfz28_1
            try clear hfz28_2
            try clear hfz28_3
            try clear hfz28_4
            try clear hfz28_5
            try clear hfz31_0
            try clear hfz31_1
            try clear hfz31_2
            try clear hfz31_3
            try clear hfz31_4
            try clear hfz31_5
            try clear hfz6_0
            try clear hfz6_1
            try clear hfz6_2
            try clear hfz6_3
            try clear hfz6_4
            try clear hfz6_5
            try clear hfz9_0
            try clear hfz9_1
            try clear hfz9_2
            try clear hfz9_3
            try clear hfz9_4
            try clear hfz9_5
            try clear p2
            try clear p6
            obtain ⟨kq, x260005_25, HA, HJ25, BK259, BK260, HB⟩ := hcut
            cases kq with
            | zero => exact absurd HA.out (by simp [halberdref07_Round.j5])
            | succ kj25 =>
             have H := HA.out
             clear HA
             simp only [halberdref07_Round.j5] at H
             by_cases c32 : (9223372036854775808 : Int) = 0
             ·rw [if_pos c32] at H
              exact absurd H (by simp)
             ·rw [if_neg c32] at H
              have c32b0 : ((9223372036854775808 : Int) == 0) = false := beq_eq_false_iff_ne.mpr c32
              have c32b1 : ((9223372036854775808 : Int) != 0) = true := bne_iff_ne.mpr c32
              have HC33 := Aside0.mk H
              clear H
              try go_wp2
              have n0_ := Aside0.mk (blk_drew BK259.out)
              have n1_ := Aside0.mk (blk_drew BK260.out)
              have n2_ := Aside0.mk (below_drew1 HB.out)
              clear BK259
              clear BK260
              clear HB
              have BK259 := n0_
              have BK260 := n1_
              have HB := n2_
              clear n0_ n1_ n2_
              refine start_ (n := 9) (S := fun w' => w'.cell? ⟨gb259, 0, none⟩ = some (.int .u64 a0_0) ∧ w'.cell? ⟨gb259, 1, none⟩ = some (.int .u64 a0_1) ∧ w'.cell? ⟨gb259, 2, none⟩ = some (.int .u64 x260002_1) ∧ w'.cell? ⟨gb259, 3, none⟩ = some (.int .u64 x260003_9) ∧ w'.cell? ⟨gb259, 4, none⟩ = some (.int .i64 x260004_19) ∧ w'.cell? ⟨gb259, 5, none⟩ = some (.int .i64 x260005_25)) (ds := []) #[false, false, false, false, false, false, false, false, false] (by kernel_rfl) rfl rfl ⟨(blk_cell BK259.out 0).trans rfl, (blk_cell BK259.out 1).trans rfl, (blk_cell BK259.out 2).trans rfl, (blk_cell BK259.out 3).trans rfl, (blk_cell BK259.out 4).trans rfl, (blk_cell BK259.out 5).trans rfl⟩ (fun hHeld => ?_); refine with_tabW halberdref07_Round.tab16 halberdref07_Round.bits16 (fun HT_ HW_ => ?_)
              generalize wc.drew = w34 at BK259 BK260 HB hHeld ⊢
              refine pure_ (i := 0) (N := some 67) (v := ?_) (a' := ?_) #[true, false, false, false, false, false, false, false, false] rfl rfl (any_of HT_.out (by kernel_rfl)) (fun _ _ _ h => h) (Or.inl ⟨by rfl, ?_⟩) ?_ ?_
              rotate_left
              ·intro w'
               go_simp
               with_reducible rfl
              rotate_left
              ·simp only [Act.put, List.setIfInBounds_toArray, List.set_cons_zero, List.set_cons_succ, i64_w, i32_w]
               rfl
              refine pure_ (i := 2) (N := some 69) (v := ?_) (a' := ?_) #[true, false, true, false, false, false, false, false, false] rfl rfl (any_of HT_.out (by kernel_rfl)) (fun _ _ _ h => h) (Or.inl ⟨by rfl, ?_⟩) ?_ ?_
              rotate_left
              ·intro w'
               go_simp
               with_reducible rfl
              rotate_left
              ·simp only [Act.put, List.setIfInBounds_toArray, List.set_cons_zero, List.set_cons_succ, i64_w, i32_w]
               rfl
              refine pure_ (i := 4) (N := some 71) (v := ?_) (a' := ?_) #[true, false, true, false, true, false, false, false, false] rfl rfl (any_of HT_.out (by kernel_rfl)) (fun _ _ _ h => h) (Or.inl ⟨by rfl, ?_⟩) ?_ ?_
              rotate_left
              ·intro w'
               go_simp
               with_reducible rfl
              rotate_left
              ·simp only [Act.put, List.setIfInBounds_toArray, List.set_cons_zero, List.set_cons_succ, i64_w, i32_w]
               rfl
              refine pure_ (i := 6) (N := some 73) (v := ?_) (a' := ?_) #[true, false, true, false, true, false, true, false, false] rfl rfl (any_of HT_.out (by kernel_rfl)) (fun _ _ _ h => h) (Or.inl ⟨by rfl, ?_⟩) ?_ ?_
              rotate_left
              ·intro w'
               go_simp
               with_reducible rfl
              rotate_left
              ·simp only [Act.put, List.setIfInBounds_toArray, List.set_cons_zero, List.set_cons_succ, i64_w, i32_w]
               rfl
              refine take_ (i := 1) (N := some 68) (v := ?_) (a' := ?_) #[true, true, true, false, true, false, true, false, false] rfl rfl (take_ofW HT_.out HW_.out (by kernel_rfl)) (fun _ _ _ h => h) (Or.inl ⟨by rfl, ?_⟩) hHeld ?_ ?_
              rotate_left
              ·rintro w' ⟨s0, s1, s2, s3, s4, s5⟩
               go_simp
               with_reducible rfl
              rotate_left
              ·simp only [Act.put, List.setIfInBounds_toArray, List.set_cons_zero, List.set_cons_succ, i64_w, i32_w]
               rfl
              refine pure_ (i := 3) (N := some 70) (v := ?_) (a' := ?_) #[true, true, true, true, true, false, true, false, false] rfl rfl (any_of HT_.out (by kernel_rfl)) (fun _ _ _ h => h) (Or.inl ⟨by rfl, ?_⟩) ?_ ?_
              rotate_left
              ·intro w'
               go_simp
               with_reducible rfl
              rotate_left
              ·simp only [Act.put, List.setIfInBounds_toArray, List.set_cons_zero, List.set_cons_succ, i64_w, i32_w]
               rfl
              refine take_ (i := 5) (N := some 72) (v := ?_) (a' := ?_) #[true, true, true, true, true, true, true, false, false] rfl rfl (take_ofW HT_.out HW_.out (by kernel_rfl)) (fun _ _ _ h => h) (Or.inl ⟨by rfl, ?_⟩) hHeld ?_ ?_
              rotate_left
              ·rintro w' ⟨s0, s1, s2, s3, s4, s5⟩
               go_simp
               with_reducible rfl
              rotate_left
              ·simp only [Act.put, List.setIfInBounds_toArray, List.set_cons_zero, List.set_cons_succ, i64_w, i32_w]
               rfl
              refine pure_ (i := 7) (N := some 74) (v := ?_) (a' := ?_) #[true, true, true, true, true, true, true, true, false] rfl rfl (any_of HT_.out (by kernel_rfl)) (fun _ _ _ h => h) (Or.inl ⟨by rfl, ?_⟩) ?_ ?_
              rotate_left
              ·intro w'
               go_simp
               with_reducible rfl
              rotate_left
              ·simp only [Act.put, List.setIfInBounds_toArray, List.set_cons_zero, List.set_cons_succ, i64_w, i32_w]
               rfl
              refine pure_ (i := 8) (N := some 75) (v := ?_) (a' := ?_) #[true, true, true, true, true, true, true, true, true] rfl rfl (any_of HT_.out (by kernel_rfl)) (fun _ _ _ h => h) (Or.inl ⟨by rfl, ?_⟩) ?_ ?_
              rotate_left
              ·intro w'
               go_simp
               with_reducible rfl
              rotate_left
              ·simp only [Act.put, List.setIfInBounds_toArray, List.set_cons_zero, List.set_cons_succ, i64_w, i32_w]
               rfl
              refine done_ (done_of HT_.out (by kernel_rfl)) ?_
              go_upto_if 75 with (fail)
              go_cut [] (fun wc => ∃ (kq : Nat) (x260004_32 : Int) (x260005_32 : Int), Aside0 (halberdref07_Round.j6 kq a0_0 a0_1 x260002_1 x260003_9 x260004_32 x260005_32 = some (r1, r2, r3, r4, r5, r6, r7)) ∧ Aside0 (kq ≤ kj25) ∧ Aside0 (wc.heap[gb259]? = some (.cells #[.int .u64 a0_0, .int .u64 a0_1, .int .u64 x260002_1, .int .u64 x260003_9, .int .i64 x260004_32, .int .i64 x260005_32] 36 (0, 0))) ∧ Aside0 (wc.heap[gb260]? = some (.cells #[.int .u64 0, .int .u64 0, .int .u64 0, .int .u64 0, .int .i64 0, .int .i64 0] 36 (0, 0))) ∧ Aside0 (Below w.heap.size w wc))
              case first => as_aux_lemma =>
               have H := HC33.out
               clear HC33
               by_cases c35 : (IntKind.u64.wrap (Int.tdiv x260002_1 9223372036854775808)) = (IntKind.u64.wrap (Int.tdiv x260003_9 9223372036854775808))
               ·rw [if_pos c35] at H
                have c35b0 : ((IntKind.u64.wrap (Int.tdiv x260002_1 9223372036854775808)) == (IntKind.u64.wrap (Int.tdiv x260003_9 9223372036854775808))) = true := beq_iff_eq.mpr c35
                have c35b1 : ((IntKind.u64.wrap (Int.tdiv x260002_1 9223372036854775808)) != (IntKind.u64.wrap (Int.tdiv x260003_9 9223372036854775808))) = false := bne_eq_false_iff_eq.mpr c35
                clear c35
                (first | rw [c35b0] | (simp only [i64_w, i32_w]; rw [c35b0]) | skip)
                by_cases c36 : x260004_19 < (wrap64 (x260002_1))
                ·rw [if_pos c36] at H
                 have c36b0 : decide (x260004_19 < (wrap64 (x260002_1))) = true := decide_eq_true c36
                 clear c36
                 by_cases c37 : x260005_25 > (wrap64 (x260003_9))
                 ·rw [if_pos c37] at H
                  have c37b0 : decide ((wrap64 (x260003_9)) < x260005_25) = true := decide_eq_true c37
                  clear c37
                  have H' := Aside0.mk H
                  clear H
                  have hnb38 := NB259_260.out
                  have hnc38 := NB260_259.out
                  have hcz39_0 : w34.cell? ⟨gb259, 0, none⟩ = some (.int .u64 a0_0) := (blk_cell BK259.out 0).trans rfl
                  have hcz39_1 : w34.cell? ⟨gb259, 1, none⟩ = some (.int .u64 a0_1) := (blk_cell BK259.out 1).trans rfl
                  have hcz39_2 : w34.cell? ⟨gb259, 2, none⟩ = some (.int .u64 x260002_1) := (blk_cell BK259.out 2).trans rfl
                  have hcz39_3 : w34.cell? ⟨gb259, 3, none⟩ = some (.int .u64 x260003_9) := (blk_cell BK259.out 3).trans rfl
                  have hcz39_4 : w34.cell? ⟨gb259, 4, none⟩ = some (.int .i64 x260004_19) := (blk_cell BK259.out 4).trans rfl
                  have hcz39_5 : w34.cell? ⟨gb259, 5, none⟩ = some (.int .i64 x260005_25) := (blk_cell BK259.out 5).trans rfl
                  have hfz39_0 := blk_frozen BK259.out 0
                  have hfz39_1 := blk_frozen BK259.out 1
                  have hfz39_2 := blk_frozen BK259.out 2
                  have hfz39_3 := blk_frozen BK259.out 3
                  have hfz39_4 := blk_frozen BK259.out 4
                  have hfz39_5 := blk_frozen BK259.out 5
                  go_wp2
                  go_meet
                  case rel => exact ⟨_, (wrap64 (x260002_1)), (wrap64 (x260003_9)), H', ⟨by have := HJ1.out; have := HJ9.out; have := HJ15.out; have := HJ17.out; have := HJ19.out; have := HJ25.out; first | omega | exact Nat.le_refl _⟩, ⟨by (with_reducible repeat (first | refine blk_drewN ?_ _ | refine blk_drew ?_ | refine blk_alloc ?_ _)); refine blk_put (cs := #[.int .u64 a0_0, .int .u64 a0_1, .int .u64 x260002_1, .int .u64 x260003_9, .int .i64 (wrap64 (x260002_1)), .int .i64 x260005_25]) ?_ 5 _ rfl; refine blk_put (cs := #[.int .u64 a0_0, .int .u64 a0_1, .int .u64 x260002_1, .int .u64 x260003_9, .int .i64 x260004_19, .int .i64 x260005_25]) ?_ 4 _ rfl; (with_reducible repeat (first | refine blk_drewN ?_ _ | refine blk_drew ?_ | refine blk_alloc ?_ _)); exact BK259.out⟩, ⟨by (with_reducible repeat (first | refine blk_drewN ?_ _ | refine blk_drew ?_ | refine blk_alloc ?_ _)); refine blk_far ?_ NB260_259.out _; refine blk_far ?_ NB260_259.out _; (with_reducible repeat (first | refine blk_drewN ?_ _ | refine blk_drew ?_ | refine blk_alloc ?_ _)); exact BK260.out⟩, ⟨by repeat (first | (with_reducible first | exact HB.out | apply below_alloc | apply pw_below_drewN | apply below_drew1 | refine below_set ?_ GE259.out | refine below_set ?_ GE260.out) | exact HB.out)⟩⟩
                 ·rw [if_neg c37] at H
                  have c37b0 : decide ((wrap64 (x260003_9)) < x260005_25) = false := decide_eq_false c37
                  clear c37
                  have H' := Aside0.mk H
                  clear H
                  have hnb40 := NB259_260.out
                  have hnc40 := NB260_259.out
                  have hcz41_0 : w34.cell? ⟨gb259, 0, none⟩ = some (.int .u64 a0_0) := (blk_cell BK259.out 0).trans rfl
                  have hcz41_1 : w34.cell? ⟨gb259, 1, none⟩ = some (.int .u64 a0_1) := (blk_cell BK259.out 1).trans rfl
                  have hcz41_2 : w34.cell? ⟨gb259, 2, none⟩ = some (.int .u64 x260002_1) := (blk_cell BK259.out 2).trans rfl
                  have hcz41_3 : w34.cell? ⟨gb259, 3, none⟩ = some (.int .u64 x260003_9) := (blk_cell BK259.out 3).trans rfl
                  have hcz41_4 : w34.cell? ⟨gb259, 4, none⟩ = some (.int .i64 x260004_19) := (blk_cell BK259.out 4).trans rfl
                  have hcz41_5 : w34.cell? ⟨gb259, 5, none⟩ = some (.int .i64 x260005_25) := (blk_cell BK259.out 5).trans rfl
                  have hfz41_0 := blk_frozen BK259.out 0
                  have hfz41_1 := blk_frozen BK259.out 1
                  have hfz41_2 := blk_frozen BK259.out 2
                  have hfz41_3 := blk_frozen BK259.out 3
                  have hfz41_4 := blk_frozen BK259.out 4
                  have hfz41_5 := blk_frozen BK259.out 5
                  go_wp2
                  go_meet
                  case rel => exact ⟨_, (wrap64 (x260002_1)), (x260005_25), H', ⟨by have := HJ1.out; have := HJ9.out; have := HJ15.out; have := HJ17.out; have := HJ19.out; have := HJ25.out; first | omega | exact Nat.le_refl _⟩, ⟨by (with_reducible repeat (first | refine blk_drewN ?_ _ | refine blk_drew ?_ | refine blk_alloc ?_ _)); refine blk_put (cs := #[.int .u64 a0_0, .int .u64 a0_1, .int .u64 x260002_1, .int .u64 x260003_9, .int .i64 x260004_19, .int .i64 x260005_25]) ?_ 4 _ rfl; (with_reducible repeat (first | refine blk_drewN ?_ _ | refine blk_drew ?_ | refine blk_alloc ?_ _)); exact BK259.out⟩, ⟨by (with_reducible repeat (first | refine blk_drewN ?_ _ | refine blk_drew ?_ | refine blk_alloc ?_ _)); refine blk_far ?_ NB260_259.out _; (with_reducible repeat (first | refine blk_drewN ?_ _ | refine blk_drew ?_ | refine blk_alloc ?_ _)); exact BK260.out⟩, ⟨by repeat (first | (with_reducible first | exact HB.out | apply below_alloc | apply pw_below_drewN | apply below_drew1 | refine below_set ?_ GE259.out | refine below_set ?_ GE260.out) | exact HB.out)⟩⟩
                ·rw [if_neg c36] at H
                 have c36b0 : decide (x260004_19 < (wrap64 (x260002_1))) = false := decide_eq_false c36
                 clear c36
                 by_cases c42 : x260005_25 > (wrap64 (x260003_9))
                 ·rw [if_pos c42] at H
                  have c42b0 : decide ((wrap64 (x260003_9)) < x260005_25) = true := decide_eq_true c42
                  clear c42
                  have H' := Aside0.mk H
                  clear H
                  have hnb43 := NB259_260.out
                  have hnc43 := NB260_259.out
                  have hcz44_0 : w34.cell? ⟨gb259, 0, none⟩ = some (.int .u64 a0_0) := (blk_cell BK259.out 0).trans rfl
                  have hcz44_1 : w34.cell? ⟨gb259, 1, none⟩ = some (.int .u64 a0_1) := (blk_cell BK259.out 1).trans rfl
                  have hcz44_2 : w34.cell? ⟨gb259, 2, none⟩ = some (.int .u64 x260002_1) := (blk_cell BK259.out 2).trans rfl
                  have hcz44_3 : w34.cell? ⟨gb259, 3, none⟩ = some (.int .u64 x260003_9) := (blk_cell BK259.out 3).trans rfl
                  have hcz44_4 : w34.cell? ⟨gb259, 4, none⟩ = some (.int .i64 x260004_19) := (blk_cell BK259.out 4).trans rfl
                  have hcz44_5 : w34.cell? ⟨gb259, 5, none⟩ = some (.int .i64 x260005_25) := (blk_cell BK259.out 5).trans rfl
                  have hfz44_0 := blk_frozen BK259.out 0
                  have hfz44_1 := blk_frozen BK259.out 1
                  have hfz44_2 := blk_frozen BK259.out 2
                  have hfz44_3 := blk_frozen BK259.out 3
                  have hfz44_4 := blk_frozen BK259.out 4
                  have hfz44_5 := blk_frozen BK259.out 5
                  go_wp2
                  go_meet
                  case rel => exact ⟨_, (x260004_19), (wrap64 (x260003_9)), H', ⟨by have := HJ1.out; have := HJ9.out; have := HJ15.out; have := HJ17.out; have := HJ19.out; have := HJ25.out; first | omega | exact Nat.le_refl _⟩, ⟨by (with_reducible repeat (first | refine blk_drewN ?_ _ | refine blk_drew ?_ | refine blk_alloc ?_ _)); refine blk_put (cs := #[.int .u64 a0_0, .int .u64 a0_1, .int .u64 x260002_1, .int .u64 x260003_9, .int .i64 x260004_19, .int .i64 x260005_25]) ?_ 5 _ rfl; (with_reducible repeat (first | refine blk_drewN ?_ _ | refine blk_drew ?_ | refine blk_alloc ?_ _)); exact BK259.out⟩, ⟨by (with_reducible repeat (first | refine blk_drewN ?_ _ | refine blk_drew ?_ | refine blk_alloc ?_ _)); refine blk_far ?_ NB260_259.out _; (with_reducible repeat (first | refine blk_drewN ?_ _ | refine blk_drew ?_ | refine blk_alloc ?_ _)); exact BK260.out⟩, ⟨by repeat (first | (with_reducible first | exact HB.out | apply below_alloc | apply pw_below_drewN | apply below_drew1 | refine below_set ?_ GE259.out | refine below_set ?_ GE260.out) | exact HB.out)⟩⟩
                 ·rw [if_neg c42] at H
                  have c42b0 : decide ((wrap64 (x260003_9)) < x260005_25) = false := decide_eq_false c42
                  clear c42
                  have H' := Aside0.mk H
                  clear H
                  have hnb45 := NB259_260.out
                  have hnc45 := NB260_259.out
                  have hcz46_0 : w34.cell? ⟨gb259, 0, none⟩ = some (.int .u64 a0_0) := (blk_cell BK259.out 0).trans rfl
                  have hcz46_1 : w34.cell? ⟨gb259, 1, none⟩ = some (.int .u64 a0_1) := (blk_cell BK259.out 1).trans rfl
                  have hcz46_2 : w34.cell? ⟨gb259, 2, none⟩ = some (.int .u64 x260002_1) := (blk_cell BK259.out 2).trans rfl
                  have hcz46_3 : w34.cell? ⟨gb259, 3, none⟩ = some (.int .u64 x260003_9) := (blk_cell BK259.out 3).trans rfl
                  have hcz46_4 : w34.cell? ⟨gb259, 4, none⟩ = some (.int .i64 x260004_19) := (blk_cell BK259.out 4).trans rfl
                  have hcz46_5 : w34.cell? ⟨gb259, 5, none⟩ = some (.int .i64 x260005_25) := (blk_cell BK259.out 5).trans rfl
                  have hfz46_0 := blk_frozen BK259.out 0
                  have hfz46_1 := blk_frozen BK259.out 1
                  have hfz46_2 := blk_frozen BK259.out 2
                  have hfz46_3 := blk_frozen BK259.out 3
                  have hfz46_4 := blk_frozen BK259.out 4
                  have hfz46_5 := blk_frozen BK259.out 5
                  go_wp2
                  go_meet
                  case rel => exact ⟨_, (x260004_19), (x260005_25), H', ⟨by have := HJ1.out; have := HJ9.out; have := HJ15.out; have := HJ17.out; have := HJ19.out; have := HJ25.out; first | omega | exact Nat.le_refl _⟩, ⟨by (with_reducible repeat (first | refine blk_drewN ?_ _ | refine blk_drew ?_ | refine blk_alloc ?_ _)); exact BK259.out⟩, ⟨by (with_reducible repeat (first | refine blk_drewN ?_ _ | refine blk_drew ?_ | refine blk_alloc ?_ _)); exact BK260.out⟩, ⟨by repeat (first | (with_reducible first | exact HB.out | apply below_alloc | apply pw_below_drewN | apply below_drew1 | refine below_set ?_ GE259.out | refine below_set ?_ GE260.out) | exact HB.out)⟩⟩
               ·rw [if_neg c35] at H
                have c35b0 : ((IntKind.u64.wrap (Int.tdiv x260002_1 9223372036854775808)) == (IntKind.u64.wrap (Int.tdiv x260003_9 9223372036854775808))) = false := beq_eq_false_iff_ne.mpr c35
                have c35b1 : ((IntKind.u64.wrap (Int.tdiv x260002_1 9223372036854775808)) != (IntKind.u64.wrap (Int.tdiv x260003_9 9223372036854775808))) = true := bne_iff_ne.mpr c35
                (first | rw [c35b0] | (simp only [i64_w, i32_w]; rw [c35b0]) | skip)
                have H' := Aside0.mk H
                clear H
                go_wp2
                go_meet
                case rel => exact ⟨_, (x260004_19), (x260005_25), H', ⟨by have := HJ1.out; have := HJ9.out; have := HJ15.out; have := HJ17.out; have := HJ19.out; have := HJ25.out; first | omega | exact Nat.le_refl _⟩, ⟨by (with_reducible repeat (first | refine blk_drewN ?_ _ | refine blk_drew ?_ | refine blk_alloc ?_ _)); exact BK259.out⟩, ⟨by (with_reducible repeat (first | refine blk_drewN ?_ _ | refine blk_drew ?_ | refine blk_alloc ?_ _)); exact BK260.out⟩, ⟨by repeat (first | (with_reducible first | exact HB.out | apply below_alloc | apply pw_below_drewN | apply below_drew1 | refine below_set ?_ GE259.out | refine below_set ?_ GE260.out) | exact HB.out)⟩⟩
              case rest =>
               clear HC33
               try clear c1
               try clear c2
               try clear p2
               try clear c3
               try clear c4
               try clear c5
               try clear p6
               try clear c7
               try clear c7b0
               try clear c8
               try clear c11
               try clear c13
               try clear c13b0
               try clear c14
               try clear c17
               try clear c17b0
               try clear c19
               try clear c21
               try clear c23
               try clear c23b0
               try clear c24
               try clear c27
               try clear c29
               try clear c29b0
               try clear c30
               try clear c32
               try clear c32b0
               try clear c32b1
               try clear c35
               try clear c35b0
               try clear c35b1
               try clear c36
               try clear c36b0
               try clear c37
               try clear c37b0
               try clear c38
               try clear c40
               try clear c42
               try clear c42b0
               try clear c43
               try clear c45
               try clear hcz12_0
               try clear hcz12_1
               try clear hcz12_2
               try clear hcz12_3
               try clear hcz12_4
               try clear hcz12_5
               try clear hcz15_0
               try clear hcz15_1
               try clear hcz15_2
               try clear hcz15_3
               try clear hcz15_4
               try clear hcz15_5
               try clear hcz22_0
               try clear hcz22_1
               try clear hcz22_2
               try clear hcz22_3
               try clear hcz22_4
               try clear hcz22_5
               try clear hcz25_0
               try clear hcz25_1
               try clear hcz25_2
               try clear hcz25_3
               try clear hcz25_4
               try clear hcz25_5
               try clear hcz28_0
               try clear hcz28_1
               try clear hcz28_2
               try clear hcz28_3
               try clear hcz28_4
               try clear hcz28_5
               try clear hcz31_0
               try clear hcz31_1
               try clear hcz31_2
               try clear hcz31_3
               try clear hcz31_4
               try clear hcz31_5
               try clear hcz39_0
               try clear hcz39_1
               try clear hcz39_2
               try clear hcz39_3
               try clear hcz39_4
               try clear hcz39_5
               try clear hcz41_0
               try clear hcz41_1
               try clear hcz41_2
               try clear hcz41_3
               try clear hcz41_4
               try clear hcz41_5
               try clear hcz44_0
               try clear hcz44_1
               try clear hcz44_2
               try clear hcz44_3
               try clear hcz44_4
               try clear hcz44_5
               try clear hcz46_0
               try clear hcz46_1
               try clear hcz46_2
               try clear hcz46_3
               try clear hcz46_4
               try clear hcz46_5
               try clear hcz6_0
               try clear hcz6_1
               try clear hcz6_2
               try clear hcz6_3
               try clear hcz6_4
               try clear hcz6_5
               try clear hcz9_0
               try clear hcz9_1
               try clear hcz9_2
               try clear hcz9_3
               try clear hcz9_4
               try clear hcz9_5
               try clear hfz12_0
               try clear hfz12_1
               try clear hfz12_2
               try clear hfz12_3
               try clear hfz12_4
               try clear hfz12_5
               try clear hfz15_0
               try clear hfz15_1
               try clear hfz15_2
               try clear hfz15_3
               try clear hfz15_4
               try clear hfz15_5
               try clear hfz22_0
               try clear hfz22_1
               try clear hfz22_2
               try clear hfz22_3
               try clear hfz22_4
               try clear hfz22_5
               try clear hfz25_0
               try clear hfz25_1
               try clear hfz25_2
               try clear hfz25_3
               try clear hfz25_4
               try clear hfz25_5
               try clear hfz28_0
               try clear hfz28_1
               try clear hfz28_2
               try clear hfz28_3
               try clear hfz28_4
               try clear hfz28_5
               try clear hfz31_0
               try clear hfz31_1
               try clear hfz31_2
               try clear hfz31_3
               try clear hfz31_4
               try clear hfz31_5
               try clear hfz39_0
               try clear hfz39_1
               try clear hfz39_2
               try clear hfz39_3
               try clear hfz39_4
               try clear hfz39_5
               try clear hfz41_0
               try clear hfz41_1
               try clear hfz41_2
               try clear hfz41_3
               try clear hfz41_4
               try clear hfz41_5
               try clear hfz44_0
               try clear hfz44_1
               try clear hfz44_2
               try clear hfz44_3
               try clear hfz44_4
               try clear hfz44_5
               try clear hfz46_0
               try clear hfz46_1
               try clear hfz46_2
               try clear hfz46_3
               try clear hfz46_4
               try clear hfz46_5
               try clear hfz6_0
               try clear hfz6_1
               try clear hfz6_2
               try clear hfz6_3
               try clear hfz6_4
               try clear hfz6_5
               try clear hfz9_0
               try clear hfz9_1
               try clear hfz9_2
               try clear hfz9_3
               try clear hfz9_4
               try clear hfz9_5
               try clear p2
               try clear p6
               obtain ⟨kq, x260004_32, x260005_32, HA, HJ32, BK259, BK260, HB⟩ := hcut
               cases kq with
               | zero => exact absurd HA.out (by simp [halberdref07_Round.j6])
               | succ kj32 =>
                have H := HA.out
                clear HA
                simp only [halberdref07_Round.j6] at H
                have HC47 := Aside0.mk H
                clear H
                go_upto_region 21 with (fail)
                go_cut [113] (fun v113 wc => ∃ (kq : Nat) (x113_46 : Bool), v113 = .bool x113_46 ∧ Aside0 (halberdref07_Round.j7 kq x113_46 a0_0 a0_1 x260002_1 x260003_9 x260004_32 x260005_32 = some (r1, r2, r3, r4, r5, r6, r7)) ∧ Aside0 (kq ≤ kj32) ∧ Aside0 (wc.heap[gb259]? = some (.cells #[.int .u64 a0_0, .int .u64 a0_1, .int .u64 x260002_1, .int .u64 x260003_9, .int .i64 x260004_32, .int .i64 x260005_32] 36 (0, 0))) ∧ Aside0 (wc.heap[gb260]? = some (.cells #[.int .u64 0, .int .u64 0, .int .u64 0, .int .u64 0, .int .i64 0, .int .i64 0] 36 (0, 0))) ∧ Aside0 (Below w.heap.size w wc))
                case first => as_aux_lemma =>
                 have H := HC47.out
                 clear HC47
                 by_cases c48 : x260004_32 ≥ 0
                 ·rw [if_pos c48] at H
                  have c48b0 : decide (0 ≤ x260004_32) = true := decide_eq_true c48
                  clear c48
                  (first | rw [c48b0] | (simp only [i64_w, i32_w]; rw [c48b0]) | skip)
                  by_cases c49 : x260005_32 ≥ 0
                  ·rw [if_pos c49] at H
                   have c49b0 : decide (0 ≤ x260005_32) = true := decide_eq_true c49
                   clear c49
                   have H' := Aside0.mk H
                   clear H
                   have hnb50 := NB259_260.out
                   have hnc50 := NB260_259.out
                   have hcz51_0 : wc.cell? ⟨gb259, 0, none⟩ = some (.int .u64 a0_0) := (blk_cell BK259.out 0).trans rfl
                   have hcz51_1 : wc.cell? ⟨gb259, 1, none⟩ = some (.int .u64 a0_1) := (blk_cell BK259.out 1).trans rfl
                   have hcz51_2 : wc.cell? ⟨gb259, 2, none⟩ = some (.int .u64 x260002_1) := (blk_cell BK259.out 2).trans rfl
                   have hcz51_3 : wc.cell? ⟨gb259, 3, none⟩ = some (.int .u64 x260003_9) := (blk_cell BK259.out 3).trans rfl
                   have hcz51_4 : wc.cell? ⟨gb259, 4, none⟩ = some (.int .i64 x260004_32) := (blk_cell BK259.out 4).trans rfl
                   have hcz51_5 : wc.cell? ⟨gb259, 5, none⟩ = some (.int .i64 x260005_32) := (blk_cell BK259.out 5).trans rfl
                   have hfz51_0 := blk_frozen BK259.out 0
                   have hfz51_1 := blk_frozen BK259.out 1
                   have hfz51_2 := blk_frozen BK259.out 2
                   have hfz51_3 := blk_frozen BK259.out 3
                   have hfz51_4 := blk_frozen BK259.out 4
                   have hfz51_5 := blk_frozen BK259.out 5
                   go_wp2
                   go_meet
                   case rel => exact ⟨_, (true), (by first | rfl | (simp; done) | (simp [*]; done)), H', ⟨by have := HJ1.out; have := HJ9.out; have := HJ15.out; have := HJ17.out; have := HJ19.out; have := HJ25.out; have := HJ32.out; first | omega | exact Nat.le_refl _⟩, ⟨by (with_reducible repeat (first | refine blk_drewN ?_ _ | refine blk_drew ?_ | refine blk_alloc ?_ _)); exact BK259.out⟩, ⟨by (with_reducible repeat (first | refine blk_drewN ?_ _ | refine blk_drew ?_ | refine blk_alloc ?_ _)); exact BK260.out⟩, ⟨by repeat (first | (with_reducible first | exact HB.out | apply below_alloc | apply pw_below_drewN | apply below_drew1 | refine below_set ?_ GE259.out | refine below_set ?_ GE260.out) | exact HB.out)⟩⟩
                  ·rw [if_neg c49] at H
                   have c49b0 : decide (0 ≤ x260005_32) = false := decide_eq_false c49
                   clear c49
                   by_cases c52 : x260004_32 < 0
                   ·rw [if_pos c52] at H
                    have c52b0 : decide (x260004_32 < 0) = true := decide_eq_true c52
                    clear c52
                    have H' := Aside0.mk H
                    clear H
                    have hnb53 := NB259_260.out
                    have hnc53 := NB260_259.out
                    have hcz54_0 : wc.cell? ⟨gb259, 0, none⟩ = some (.int .u64 a0_0) := (blk_cell BK259.out 0).trans rfl
                    have hcz54_1 : wc.cell? ⟨gb259, 1, none⟩ = some (.int .u64 a0_1) := (blk_cell BK259.out 1).trans rfl
                    have hcz54_2 : wc.cell? ⟨gb259, 2, none⟩ = some (.int .u64 x260002_1) := (blk_cell BK259.out 2).trans rfl
                    have hcz54_3 : wc.cell? ⟨gb259, 3, none⟩ = some (.int .u64 x260003_9) := (blk_cell BK259.out 3).trans rfl
                    have hcz54_4 : wc.cell? ⟨gb259, 4, none⟩ = some (.int .i64 x260004_32) := (blk_cell BK259.out 4).trans rfl
                    have hcz54_5 : wc.cell? ⟨gb259, 5, none⟩ = some (.int .i64 x260005_32) := (blk_cell BK259.out 5).trans rfl
                    have hfz54_0 := blk_frozen BK259.out 0
                    have hfz54_1 := blk_frozen BK259.out 1
                    have hfz54_2 := blk_frozen BK259.out 2
                    have hfz54_3 := blk_frozen BK259.out 3
                    have hfz54_4 := blk_frozen BK259.out 4
                    have hfz54_5 := blk_frozen BK259.out 5
                    go_wp2
                    go_meet
                    case rel => exact ⟨_, (decide (x260005_32 < 0)), (by first | rfl | (simp; done) | (simp [*]; done)), H', ⟨by have := HJ1.out; have := HJ9.out; have := HJ15.out; have := HJ17.out; have := HJ19.out; have := HJ25.out; have := HJ32.out; first | omega | exact Nat.le_refl _⟩, ⟨by (with_reducible repeat (first | refine blk_drewN ?_ _ | refine blk_drew ?_ | refine blk_alloc ?_ _)); exact BK259.out⟩, ⟨by (with_reducible repeat (first | refine blk_drewN ?_ _ | refine blk_drew ?_ | refine blk_alloc ?_ _)); exact BK260.out⟩, ⟨by repeat (first | (with_reducible first | exact HB.out | apply below_alloc | apply pw_below_drewN | apply below_drew1 | refine below_set ?_ GE259.out | refine below_set ?_ GE260.out) | exact HB.out)⟩⟩
                   ·rw [if_neg c52] at H
                    have c52b0 : decide (x260004_32 < 0) = false := decide_eq_false c52
                    clear c52
                    have H' := Aside0.mk H
                    clear H
                    have hnb55 := NB259_260.out
                    have hnc55 := NB260_259.out
                    have hcz56_0 : wc.cell? ⟨gb259, 0, none⟩ = some (.int .u64 a0_0) := (blk_cell BK259.out 0).trans rfl
                    have hcz56_1 : wc.cell? ⟨gb259, 1, none⟩ = some (.int .u64 a0_1) := (blk_cell BK259.out 1).trans rfl
                    have hcz56_2 : wc.cell? ⟨gb259, 2, none⟩ = some (.int .u64 x260002_1) := (blk_cell BK259.out 2).trans rfl
                    have hcz56_3 : wc.cell? ⟨gb259, 3, none⟩ = some (.int .u64 x260003_9) := (blk_cell BK259.out 3).trans rfl
                    have hcz56_4 : wc.cell? ⟨gb259, 4, none⟩ = some (.int .i64 x260004_32) := (blk_cell BK259.out 4).trans rfl
                    have hcz56_5 : wc.cell? ⟨gb259, 5, none⟩ = some (.int .i64 x260005_32) := (blk_cell BK259.out 5).trans rfl
                    have hfz56_0 := blk_frozen BK259.out 0
                    have hfz56_1 := blk_frozen BK259.out 1
                    have hfz56_2 := blk_frozen BK259.out 2
                    have hfz56_3 := blk_frozen BK259.out 3
                    have hfz56_4 := blk_frozen BK259.out 4
                    have hfz56_5 := blk_frozen BK259.out 5
                    go_wp2
                    go_meet
                    case rel => exact ⟨_, (false), (by first | rfl | (simp; done) | (simp [*]; done)), H', ⟨by have := HJ1.out; have := HJ9.out; have := HJ15.out; have := HJ17.out; have := HJ19.out; have := HJ25.out; have := HJ32.out; first | omega | exact Nat.le_refl _⟩, ⟨by (with_reducible repeat (first | refine blk_drewN ?_ _ | refine blk_drew ?_ | refine blk_alloc ?_ _)); exact BK259.out⟩, ⟨by (with_reducible repeat (first | refine blk_drewN ?_ _ | refine blk_drew ?_ | refine blk_alloc ?_ _)); exact BK260.out⟩, ⟨by repeat (first | (with_reducible first | exact HB.out | apply below_alloc | apply pw_below_drewN | apply below_drew1 | refine below_set ?_ GE259.out | refine below_set ?_ GE260.out) | exact HB.out)⟩⟩
                 ·rw [if_neg c48] at H
                  have c48b0 : decide (0 ≤ x260004_32) = false := decide_eq_false c48
                  clear c48
                  (first | rw [c48b0] | (simp only [i64_w, i32_w]; rw [c48b0]) | skip)
                  by_cases c57 : x260004_32 < 0
                  ·rw [if_pos c57] at H
                   have c57b0 : decide (x260004_32 < 0) = true := decide_eq_true c57
                   clear c57
                   have H' := Aside0.mk H
                   clear H
                   have hnb58 := NB259_260.out
                   have hnc58 := NB260_259.out
                   have hcz59_0 : wc.cell? ⟨gb259, 0, none⟩ = some (.int .u64 a0_0) := (blk_cell BK259.out 0).trans rfl
                   have hcz59_1 : wc.cell? ⟨gb259, 1, none⟩ = some (.int .u64 a0_1) := (blk_cell BK259.out 1).trans rfl
                   have hcz59_2 : wc.cell? ⟨gb259, 2, none⟩ = some (.int .u64 x260002_1) := (blk_cell BK259.out 2).trans rfl
                   have hcz59_3 : wc.cell? ⟨gb259, 3, none⟩ = some (.int .u64 x260003_9) := (blk_cell BK259.out 3).trans rfl
                   have hcz59_4 : wc.cell? ⟨gb259, 4, none⟩ = some (.int .i64 x260004_32) := (blk_cell BK259.out 4).trans rfl
                   have hcz59_5 : wc.cell? ⟨gb259, 5, none⟩ = some (.int .i64 x260005_32) := (blk_cell BK259.out 5).trans rfl
                   have hfz59_0 := blk_frozen BK259.out 0
                   have hfz59_1 := blk_frozen BK259.out 1
                   have hfz59_2 := blk_frozen BK259.out 2
                   have hfz59_3 := blk_frozen BK259.out 3
                   have hfz59_4 := blk_frozen BK259.out 4
                   have hfz59_5 := blk_frozen BK259.out 5
                   go_wp2
                   go_meet
                   case rel => exact ⟨_, (decide (x260005_32 < 0)), (by first | rfl | (simp; done) | (simp [*]; done)), H', ⟨by have := HJ1.out; have := HJ9.out; have := HJ15.out; have := HJ17.out; have := HJ19.out; have := HJ25.out; have := HJ32.out; first | omega | exact Nat.le_refl _⟩, ⟨by (with_reducible repeat (first | refine blk_drewN ?_ _ | refine blk_drew ?_ | refine blk_alloc ?_ _)); exact BK259.out⟩, ⟨by (with_reducible repeat (first | refine blk_drewN ?_ _ | refine blk_drew ?_ | refine blk_alloc ?_ _)); exact BK260.out⟩, ⟨by repeat (first | (with_reducible first | exact HB.out | apply below_alloc | apply pw_below_drewN | apply below_drew1 | refine below_set ?_ GE259.out | refine below_set ?_ GE260.out) | exact HB.out)⟩⟩
                  ·rw [if_neg c57] at H
                   have c57b0 : decide (x260004_32 < 0) = false := decide_eq_false c57
                   clear c57
                   have H' := Aside0.mk H
                   clear H
                   have hnb60 := NB259_260.out
                   have hnc60 := NB260_259.out
                   have hcz61_0 : wc.cell? ⟨gb259, 0, none⟩ = some (.int .u64 a0_0) := (blk_cell BK259.out 0).trans rfl
                   have hcz61_1 : wc.cell? ⟨gb259, 1, none⟩ = some (.int .u64 a0_1) := (blk_cell BK259.out 1).trans rfl
                   have hcz61_2 : wc.cell? ⟨gb259, 2, none⟩ = some (.int .u64 x260002_1) := (blk_cell BK259.out 2).trans rfl
                   have hcz61_3 : wc.cell? ⟨gb259, 3, none⟩ = some (.int .u64 x260003_9) := (blk_cell BK259.out 3).trans rfl
                   have hcz61_4 : wc.cell? ⟨gb259, 4, none⟩ = some (.int .i64 x260004_32) := (blk_cell BK259.out 4).trans rfl
                   have hcz61_5 : wc.cell? ⟨gb259, 5, none⟩ = some (.int .i64 x260005_32) := (blk_cell BK259.out 5).trans rfl
                   have hfz61_0 := blk_frozen BK259.out 0
                   have hfz61_1 := blk_frozen BK259.out 1
                   have hfz61_2 := blk_frozen BK259.out 2
                   have hfz61_3 := blk_frozen BK259.out 3
                   have hfz61_4 := blk_frozen BK259.out 4
                   have hfz61_5 := blk_frozen BK259.out 5
                   go_wp2
                   go_meet
                   case rel => exact ⟨_, (false), (by first | rfl | (simp; done) | (simp [*]; done)), H', ⟨by have := HJ1.out; have := HJ9.out; have := HJ15.out; have := HJ17.out; have := HJ19.out; have := HJ25.out; have := HJ32.out; first | omega | exact Nat.le_refl _⟩, ⟨by (with_reducible repeat (first | refine blk_drewN ?_ _ | refine blk_drew ?_ | refine blk_alloc ?_ _)); exact BK259.out⟩, ⟨by (with_reducible repeat (first | refine blk_drewN ?_ _ | refine blk_drew ?_ | refine blk_alloc ?_ _)); exact BK260.out⟩, ⟨by repeat (first | (with_reducible first | exact HB.out | apply below_alloc | apply pw_below_drewN | apply below_drew1 | refine below_set ?_ GE259.out | refine below_set ?_ GE260.out) | exact HB.out)⟩⟩
                case rest =>
                 clear HC47
                 try clear c1
                 try clear c2
                 try clear p2
                 try clear c3
                 try clear c4
                 try clear c5
                 try clear c6
                 try clear p6
                 try clear c7
                 try clear c7b0
                 try clear c8
                 try clear c11
                 try clear c13
                 try clear c13b0
                 try clear c14
                 try clear c17
                 try clear c17b0
                 try clear c19
                 try clear c21
                 try clear c23
                 try clear c23b0
                 try clear c24
                 try clear c27
                 try clear c29
                 try clear c29b0
                 try clear c30
                 try clear c32
                 try clear c32b0
                 try clear c32b1
                 try clear c35
                 try clear c35b0
                 try clear c35b1
                 try clear c36
                 try clear c36b0
                 try clear c37
                 try clear c37b0
                 try clear c38
                 try clear c40
                 try clear c42
                 try clear c42b0
                 try clear c43
                 try clear c45
                 try clear c48
                 try clear c48b0
                 try clear c49
                 try clear c49b0
                 try clear c50
                 try clear c52
                 try clear c52b0
                 try clear c53
                 try clear c55
                 try clear c57
                 try clear c57b0
                 try clear c58
                 try clear c60
                 try clear hcz12_0
                 try clear hcz12_1
                 try clear hcz12_2
                 try clear hcz12_3
                 try clear hcz12_4
                 try clear hcz12_5
                 try clear hcz15_0
                 try clear hcz15_1
                 try clear hcz15_2
                 try clear hcz15_3
                 try clear hcz15_4
                 try clear hcz15_5
                 try clear hcz22_0
                 try clear hcz22_1
                 try clear hcz22_2
                 try clear hcz22_3
                 try clear hcz22_4
                 try clear hcz22_5
                 try clear hcz25_0
                 try clear hcz25_1
                 try clear hcz25_2
                 try clear hcz25_3
                 try clear hcz25_4
                 try clear hcz25_5
                 try clear hcz28_0
                 try clear hcz28_1
                 try clear hcz28_2
                 try clear hcz28_3
                 try clear hcz28_4
                 try clear hcz28_5
                 try clear hcz31_0
                 try clear hcz31_1
                 try clear hcz31_2
                 try clear hcz31_3
                 try clear hcz31_4
                 try clear hcz31_5
                 try clear hcz39_0
                 try clear hcz39_1
                 try clear hcz39_2
                 try clear hcz39_3
                 try clear hcz39_4
                 try clear hcz39_5
                 try clear hcz41_0
                 try clear hcz41_1
                 try clear hcz41_2
                 try clear hcz41_3
                 try clear hcz41_4
                 try clear hcz41_5
                 try clear hcz44_0
                 try clear hcz44_1
                 try clear hcz44_2
                 try clear hcz44_3
                 try clear hcz44_4
                 try clear hcz44_5
                 try clear hcz46_0
                 try clear hcz46_1
                 try clear hcz46_2
                 try clear hcz46_3
                 try clear hcz46_4
                 try clear hcz46_5
                 try clear hcz51_0
                 try clear hcz51_1
                 try clear hcz51_2
                 try clear hcz51_3
                 try clear hcz51_4
                 try clear hcz51_5
                 try clear hcz54_0
                 try clear hcz54_1
                 try clear hcz54_2
                 try clear hcz54_3
                 try clear hcz54_4
                 try clear hcz54_5
                 try clear hcz56_0
                 try clear hcz56_1
                 try clear hcz56_2
                 try clear hcz56_3
                 try clear hcz56_4
                 try clear hcz56_5
                 try clear hcz59_0
                 try clear hcz59_1
                 try clear hcz59_2
                 try clear hcz59_3
                 try clear hcz59_4
                 try clear hcz59_5
                 try clear hcz61_0
                 try clear hcz61_1
                 try clear hcz61_2
                 try clear hcz61_3
                 try clear hcz61_4
                 try clear hcz61_5
                 try clear hcz6_0
                 try clear hcz6_1
                 try clear hcz6_2
                 try clear hcz6_3
                 try clear hcz6_4
                 try clear hcz6_5
                 try clear hcz9_0
                 try clear hcz9_1
                 try clear hcz9_2
                 try clear hcz9_3
                 try clear hcz9_4
                 try clear hcz9_5
                 try clear hfz12_0
                 try clear hfz12_1
                 try clear hfz12_2
                 try clear hfz12_3
                 try clear hfz12_4
                 try clear hfz12_5
                 try clear hfz15_0
                 try clear hfz15_1
                 try clear hfz15_2
                 try clear hfz15_3
                 try clear hfz15_4
                 try clear hfz15_5
                 try clear hfz22_0
                 try clear hfz22_1
                 try clear hfz22_2
                 try clear hfz22_3
                 try clear hfz22_4
                 try clear hfz22_5
                 try clear hfz25_0
                 try clear hfz25_1
                 try clear hfz25_2
                 try clear hfz25_3
                 try clear hfz25_4
                 try clear hfz25_5
                 try clear hfz28_0
                 try clear hfz28_1
                 try clear hfz28_2
                 try clear hfz28_3
                 try clear hfz28_4
                 try clear hfz28_5
                 try clear hfz31_0
                 try clear hfz31_1
                 try clear hfz31_2
                 try clear hfz31_3
                 try clear hfz31_4
                 try clear hfz31_5
                 try clear hfz39_0
                 try clear hfz39_1
                 try clear hfz39_2
                 try clear hfz39_3
                 try clear hfz39_4
                 try clear hfz39_5
                 try clear hfz41_0
                 try clear hfz41_1
                 try clear hfz41_2
                 try clear hfz41_3
                 try clear hfz41_4
                 try clear hfz41_5
                 try clear hfz44_0
                 try clear hfz44_1
                 try clear hfz44_2
                 try clear hfz44_3
                 try clear hfz44_4
                 try clear hfz44_5
                 try clear hfz46_0
                 try clear hfz46_1
                 try clear hfz46_2
                 try clear hfz46_3
                 try clear hfz46_4
                 try clear hfz46_5
                 try clear hfz51_0
                 try clear hfz51_1
                 try clear hfz51_2
                 try clear hfz51_3
                 try clear hfz51_4
                 try clear hfz51_5
                 try clear hfz54_0
                 try clear hfz54_1
                 try clear hfz54_2
                 try clear hfz54_3
                 try clear hfz54_4
                 try clear hfz54_5
                 try clear hfz56_0
                 try clear hfz56_1
                 try clear hfz56_2
                 try clear hfz56_3
                 try clear hfz56_4
                 try clear hfz56_5
                 try clear hfz59_0
                 try clear hfz59_1
                 try clear hfz59_2
                 try clear hfz59_3
                 try clear hfz59_4
                 try clear hfz59_5
                 try clear hfz61_0
                 try clear hfz61_1
                 try clear hfz61_2
                 try clear hfz61_3
                 try clear hfz61_4
                 try clear hfz61_5
                 try clear hfz6_0
                 try clear hfz6_1
                 try clear hfz6_2
                 try clear hfz6_3
                 try clear hfz6_4
                 try clear hfz6_5
                 try clear hfz9_0
                 try clear hfz9_1
                 try clear hfz9_2
                 try clear hfz9_3
                 try clear hfz9_4
                 try clear hfz9_5
                 try clear p2
                 try clear p6
                 obtain ⟨kq, x113_46, rfl, HA, HJ46, BK259, BK260, HB⟩ := hcut
                 cases kq with
                 | zero => exact absurd HA.out (by simp [halberdref07_Round.j7])
                 | succ kj46 =>
                  have H := HA.out
                  clear HA
                  simp only [halberdref07_Round.j7] at H
                  have HC62 := Aside0.mk H
                  clear H
                  go_upto_if 113 with (fail)
                  go_cut [] (fun wc => ∃ (kq : Nat) (x260002_61 : Int) (x260003_61 : Int), Aside0 (halberdref07_Round.j8 kq a0_0 a0_1 x260002_61 x260003_61 x260004_32 x260005_32 = some (r1, r2, r3, r4, r5, r6, r7)) ∧ Aside0 (kq ≤ kj46) ∧ Aside0 (wc.heap[gb259]? = some (.cells #[.int .u64 a0_0, .int .u64 a0_1, .int .u64 x260002_61, .int .u64 x260003_61, .int .i64 x260004_32, .int .i64 x260005_32] 36 (0, 0))) ∧ Aside0 (wc.heap[gb260]? = some (.cells #[.int .u64 0, .int .u64 0, .int .u64 0, .int .u64 0, .int .i64 0, .int .i64 0] 36 (0, 0))) ∧ Aside0 (Below w.heap.size w wc))
                  case first => as_aux_lemma =>
                   have H := HC62.out
                   clear HC62
                   by_cases c63 : x113_46 = true
                   ·subst c63
                    have H1 : (if x260002_1 < (IntKind.u64.wrap (x260004_32)) then (if x260003_9 > (IntKind.u64.wrap (x260005_32)) then (halberdref07_Round.j8 kj46 a0_0 a0_1 (IntKind.u64.wrap (x260004_32)) (IntKind.u64.wrap (x260005_32)) x260004_32 x260005_32) else (halberdref07_Round.j8 kj46 a0_0 a0_1 (IntKind.u64.wrap (x260004_32)) x260003_9 x260004_32 x260005_32)) else (if x260003_9 > (IntKind.u64.wrap (x260005_32)) then (halberdref07_Round.j8 kj46 a0_0 a0_1 x260002_1 (IntKind.u64.wrap (x260005_32)) x260004_32 x260005_32) else (halberdref07_Round.j8 kj46 a0_0 a0_1 x260002_1 x260003_9 x260004_32 x260005_32))) = some (r1, r2, r3, r4, r5, r6, r7) := by rw [if_pos rfl] at H; exact H
                    clear H
                    have H := H1
                    clear H1
                    by_cases c64 : x260002_1 < (IntKind.u64.wrap (x260004_32))
                    ·rw [if_pos c64] at H
                     have c64b0 : decide (x260002_1 < (IntKind.u64.wrap (x260004_32))) = true := decide_eq_true c64
                     clear c64
                     (first | rw [c64b0] | (simp only [i64_w, i32_w]; rw [c64b0]) | skip)
                     by_cases c65 : x260003_9 > (IntKind.u64.wrap (x260005_32))
                     ·rw [if_pos c65] at H
                      have c65b0 : decide ((IntKind.u64.wrap (x260005_32)) < x260003_9) = true := decide_eq_true c65
                      clear c65
                      have H' := Aside0.mk H
                      clear H
                      have hnb66 := NB259_260.out
                      have hnc66 := NB260_259.out
                      have hcz67_0 : wc.cell? ⟨gb259, 0, none⟩ = some (.int .u64 a0_0) := (blk_cell BK259.out 0).trans rfl
                      have hcz67_1 : wc.cell? ⟨gb259, 1, none⟩ = some (.int .u64 a0_1) := (blk_cell BK259.out 1).trans rfl
                      have hcz67_2 : wc.cell? ⟨gb259, 2, none⟩ = some (.int .u64 x260002_1) := (blk_cell BK259.out 2).trans rfl
                      have hcz67_3 : wc.cell? ⟨gb259, 3, none⟩ = some (.int .u64 x260003_9) := (blk_cell BK259.out 3).trans rfl
                      have hcz67_4 : wc.cell? ⟨gb259, 4, none⟩ = some (.int .i64 x260004_32) := (blk_cell BK259.out 4).trans rfl
                      have hcz67_5 : wc.cell? ⟨gb259, 5, none⟩ = some (.int .i64 x260005_32) := (blk_cell BK259.out 5).trans rfl
                      have hfz67_0 := blk_frozen BK259.out 0
                      have hfz67_1 := blk_frozen BK259.out 1
                      have hfz67_2 := blk_frozen BK259.out 2
                      have hfz67_3 := blk_frozen BK259.out 3
                      have hfz67_4 := blk_frozen BK259.out 4
                      have hfz67_5 := blk_frozen BK259.out 5
                      go_wp2
                      go_meet
                      case rel => exact ⟨_, (IntKind.u64.wrap (x260004_32)), (IntKind.u64.wrap (x260005_32)), H', ⟨by have := HJ1.out; have := HJ9.out; have := HJ15.out; have := HJ17.out; have := HJ19.out; have := HJ25.out; have := HJ32.out; have := HJ46.out; first | omega | exact Nat.le_refl _⟩, ⟨by (with_reducible repeat (first | refine blk_drewN ?_ _ | refine blk_drew ?_ | refine blk_alloc ?_ _)); refine blk_put (cs := #[.int .u64 a0_0, .int .u64 a0_1, .int .u64 (IntKind.u64.wrap (x260004_32)), .int .u64 x260003_9, .int .i64 x260004_32, .int .i64 x260005_32]) ?_ 3 _ rfl; refine blk_put (cs := #[.int .u64 a0_0, .int .u64 a0_1, .int .u64 x260002_1, .int .u64 x260003_9, .int .i64 x260004_32, .int .i64 x260005_32]) ?_ 2 _ rfl; (with_reducible repeat (first | refine blk_drewN ?_ _ | refine blk_drew ?_ | refine blk_alloc ?_ _)); exact BK259.out⟩, ⟨by (with_reducible repeat (first | refine blk_drewN ?_ _ | refine blk_drew ?_ | refine blk_alloc ?_ _)); refine blk_far ?_ NB260_259.out _; refine blk_far ?_ NB260_259.out _; (with_reducible repeat (first | refine blk_drewN ?_ _ | refine blk_drew ?_ | refine blk_alloc ?_ _)); exact BK260.out⟩, ⟨by repeat (first | (with_reducible first | exact HB.out | apply below_alloc | apply pw_below_drewN | apply below_drew1 | refine below_set ?_ GE259.out | refine below_set ?_ GE260.out) | exact HB.out)⟩⟩
                     ·rw [if_neg c65] at H
                      have c65b0 : decide ((IntKind.u64.wrap (x260005_32)) < x260003_9) = false := decide_eq_false c65
                      clear c65
                      have H' := Aside0.mk H
                      clear H
                      have hnb68 := NB259_260.out
                      have hnc68 := NB260_259.out
                      have hcz69_0 : wc.cell? ⟨gb259, 0, none⟩ = some (.int .u64 a0_0) := (blk_cell BK259.out 0).trans rfl
                      have hcz69_1 : wc.cell? ⟨gb259, 1, none⟩ = some (.int .u64 a0_1) := (blk_cell BK259.out 1).trans rfl
                      have hcz69_2 : wc.cell? ⟨gb259, 2, none⟩ = some (.int .u64 x260002_1) := (blk_cell BK259.out 2).trans rfl
                      have hcz69_3 : wc.cell? ⟨gb259, 3, none⟩ = some (.int .u64 x260003_9) := (blk_cell BK259.out 3).trans rfl
                      have hcz69_4 : wc.cell? ⟨gb259, 4, none⟩ = some (.int .i64 x260004_32) := (blk_cell BK259.out 4).trans rfl
                      have hcz69_5 : wc.cell? ⟨gb259, 5, none⟩ = some (.int .i64 x260005_32) := (blk_cell BK259.out 5).trans rfl
                      have hfz69_0 := blk_frozen BK259.out 0
                      have hfz69_1 := blk_frozen BK259.out 1
                      have hfz69_2 := blk_frozen BK259.out 2
                      have hfz69_3 := blk_frozen BK259.out 3
                      have hfz69_4 := blk_frozen BK259.out 4
                      have hfz69_5 := blk_frozen BK259.out 5
                      go_wp2
                      go_meet
                      case rel => exact ⟨_, (IntKind.u64.wrap (x260004_32)), (x260003_9), H', ⟨by have := HJ1.out; have := HJ9.out; have := HJ15.out; have := HJ17.out; have := HJ19.out; have := HJ25.out; have := HJ32.out; have := HJ46.out; first | omega | exact Nat.le_refl _⟩, ⟨by (with_reducible repeat (first | refine blk_drewN ?_ _ | refine blk_drew ?_ | refine blk_alloc ?_ _)); refine blk_put (cs := #[.int .u64 a0_0, .int .u64 a0_1, .int .u64 x260002_1, .int .u64 x260003_9, .int .i64 x260004_32, .int .i64 x260005_32]) ?_ 2 _ rfl; (with_reducible repeat (first | refine blk_drewN ?_ _ | refine blk_drew ?_ | refine blk_alloc ?_ _)); exact BK259.out⟩, ⟨by (with_reducible repeat (first | refine blk_drewN ?_ _ | refine blk_drew ?_ | refine blk_alloc ?_ _)); refine blk_far ?_ NB260_259.out _; (with_reducible repeat (first | refine blk_drewN ?_ _ | refine blk_drew ?_ | refine blk_alloc ?_ _)); exact BK260.out⟩, ⟨by repeat (first | (with_reducible first | exact HB.out | apply below_alloc | apply pw_below_drewN | apply below_drew1 | refine below_set ?_ GE259.out | refine below_set ?_ GE260.out) | exact HB.out)⟩⟩
                    ·rw [if_neg c64] at H
                     have c64b0 : decide (x260002_1 < (IntKind.u64.wrap (x260004_32))) = false := decide_eq_false c64
                     clear c64
                     (first | rw [c64b0] | (simp only [i64_w, i32_w]; rw [c64b0]) | skip)
                     by_cases c70 : x260003_9 > (IntKind.u64.wrap (x260005_32))
                     ·rw [if_pos c70] at H
                      have c70b0 : decide ((IntKind.u64.wrap (x260005_32)) < x260003_9) = true := decide_eq_true c70
                      clear c70
                      have H' := Aside0.mk H
                      clear H
                      have hnb71 := NB259_260.out
                      have hnc71 := NB260_259.out
                      have hcz72_0 : wc.cell? ⟨gb259, 0, none⟩ = some (.int .u64 a0_0) := (blk_cell BK259.out 0).trans rfl
                      have hcz72_1 : wc.cell? ⟨gb259, 1, none⟩ = some (.int .u64 a0_1) := (blk_cell BK259.out 1).trans rfl
                      have hcz72_2 : wc.cell? ⟨gb259, 2, none⟩ = some (.int .u64 x260002_1) := (blk_cell BK259.out 2).trans rfl
                      have hcz72_3 : wc.cell? ⟨gb259, 3, none⟩ = some (.int .u64 x260003_9) := (blk_cell BK259.out 3).trans rfl
                      have hcz72_4 : wc.cell? ⟨gb259, 4, none⟩ = some (.int .i64 x260004_32) := (blk_cell BK259.out 4).trans rfl
                      have hcz72_5 : wc.cell? ⟨gb259, 5, none⟩ = some (.int .i64 x260005_32) := (blk_cell BK259.out 5).trans rfl
                      have hfz72_0 := blk_frozen BK259.out 0
                      have hfz72_1 := blk_frozen BK259.out 1
                      have hfz72_2 := blk_frozen BK259.out 2
                      have hfz72_3 := blk_frozen BK259.out 3
                      have hfz72_4 := blk_frozen BK259.out 4
                      have hfz72_5 := blk_frozen BK259.out 5
                      go_wp2
                      go_meet
                      case rel => exact ⟨_, (x260002_1), (IntKind.u64.wrap (x260005_32)), H', ⟨by have := HJ1.out; have := HJ9.out; have := HJ15.out; have := HJ17.out; have := HJ19.out; have := HJ25.out; have := HJ32.out; have := HJ46.out; first | omega | exact Nat.le_refl _⟩, ⟨by (with_reducible repeat (first | refine blk_drewN ?_ _ | refine blk_drew ?_ | refine blk_alloc ?_ _)); refine blk_put (cs := #[.int .u64 a0_0, .int .u64 a0_1, .int .u64 x260002_1, .int .u64 x260003_9, .int .i64 x260004_32, .int .i64 x260005_32]) ?_ 3 _ rfl; (with_reducible repeat (first | refine blk_drewN ?_ _ | refine blk_drew ?_ | refine blk_alloc ?_ _)); exact BK259.out⟩, ⟨by (with_reducible repeat (first | refine blk_drewN ?_ _ | refine blk_drew ?_ | refine blk_alloc ?_ _)); refine blk_far ?_ NB260_259.out _; (with_reducible repeat (first | refine blk_drewN ?_ _ | refine blk_drew ?_ | refine blk_alloc ?_ _)); exact BK260.out⟩, ⟨by repeat (first | (with_reducible first | exact HB.out | apply below_alloc | apply pw_below_drewN | apply below_drew1 | refine below_set ?_ GE259.out | refine below_set ?_ GE260.out) | exact HB.out)⟩⟩
                     ·rw [if_neg c70] at H
                      have c70b0 : decide ((IntKind.u64.wrap (x260005_32)) < x260003_9) = false := decide_eq_false c70
                      clear c70
                      have H' := Aside0.mk H
                      clear H
                      have hnb73 := NB259_260.out
                      have hnc73 := NB260_259.out
                      have hcz74_0 : wc.cell? ⟨gb259, 0, none⟩ = some (.int .u64 a0_0) := (blk_cell BK259.out 0).trans rfl
                      have hcz74_1 : wc.cell? ⟨gb259, 1, none⟩ = some (.int .u64 a0_1) := (blk_cell BK259.out 1).trans rfl
                      have hcz74_2 : wc.cell? ⟨gb259, 2, none⟩ = some (.int .u64 x260002_1) := (blk_cell BK259.out 2).trans rfl
                      have hcz74_3 : wc.cell? ⟨gb259, 3, none⟩ = some (.int .u64 x260003_9) := (blk_cell BK259.out 3).trans rfl
                      have hcz74_4 : wc.cell? ⟨gb259, 4, none⟩ = some (.int .i64 x260004_32) := (blk_cell BK259.out 4).trans rfl
                      have hcz74_5 : wc.cell? ⟨gb259, 5, none⟩ = some (.int .i64 x260005_32) := (blk_cell BK259.out 5).trans rfl
                      have hfz74_0 := blk_frozen BK259.out 0
                      have hfz74_1 := blk_frozen BK259.out 1
                      have hfz74_2 := blk_frozen BK259.out 2
                      have hfz74_3 := blk_frozen BK259.out 3
                      have hfz74_4 := blk_frozen BK259.out 4
                      have hfz74_5 := blk_frozen BK259.out 5
                      go_wp2
                      go_meet
                      case rel => exact ⟨_, (x260002_1), (x260003_9), H', ⟨by have := HJ1.out; have := HJ9.out; have := HJ15.out; have := HJ17.out; have := HJ19.out; have := HJ25.out; have := HJ32.out; have := HJ46.out; first | omega | exact Nat.le_refl _⟩, ⟨by (with_reducible repeat (first | refine blk_drewN ?_ _ | refine blk_drew ?_ | refine blk_alloc ?_ _)); exact BK259.out⟩, ⟨by (with_reducible repeat (first | refine blk_drewN ?_ _ | refine blk_drew ?_ | refine blk_alloc ?_ _)); exact BK260.out⟩, ⟨by repeat (first | (with_reducible first | exact HB.out | apply below_alloc | apply pw_below_drewN | apply below_drew1 | refine below_set ?_ GE259.out | refine below_set ?_ GE260.out) | exact HB.out)⟩⟩
                   ·replace c63 := Bool.eq_false_iff.mpr c63
                    subst c63
                    have H1 : (halberdref07_Round.j8 kj46 a0_0 a0_1 x260002_1 x260003_9 x260004_32 x260005_32) = some (r1, r2, r3, r4, r5, r6, r7) := by rw [if_neg (show ¬ (false = true) by decide)] at H; exact H
                    clear H
                    have H := H1
                    clear H1
                    have H' := Aside0.mk H
                    clear H
                    go_wp2
                    go_meet
                    case rel => exact ⟨_, (x260002_1), (x260003_9), H', ⟨by have := HJ1.out; have := HJ9.out; have := HJ15.out; have := HJ17.out; have := HJ19.out; have := HJ25.out; have := HJ32.out; have := HJ46.out; first | omega | exact Nat.le_refl _⟩, ⟨by (with_reducible repeat (first | refine blk_drewN ?_ _ | refine blk_drew ?_ | refine blk_alloc ?_ _)); exact BK259.out⟩, ⟨by (with_reducible repeat (first | refine blk_drewN ?_ _ | refine blk_drew ?_ | refine blk_alloc ?_ _)); exact BK260.out⟩, ⟨by repeat (first | (with_reducible first | exact HB.out | apply below_alloc | apply pw_below_drewN | apply below_drew1 | refine below_set ?_ GE259.out | refine below_set ?_ GE260.out) | exact HB.out)⟩⟩
                  case rest =>
                   clear HC62
                   try clear c1
                   try clear c2
                   try clear p2
                   try clear c3
                   try clear c4
                   try clear c5
                   try clear c6
                   try clear p6
                   try clear c7
                   try clear c7b0
                   try clear c8
                   try clear c11
                   try clear c13
                   try clear c13b0
                   try clear c14
                   try clear c17
                   try clear c17b0
                   try clear c19
                   try clear c21
                   try clear c23
                   try clear c23b0
                   try clear c24
                   try clear c27
                   try clear c29
                   try clear c29b0
                   try clear c30
                   try clear c32
                   try clear c32b0
                   try clear c32b1
                   try clear c35
                   try clear c35b0
                   try clear c35b1
                   try clear c36
                   try clear c36b0
                   try clear c37
                   try clear c37b0
                   try clear c38
                   try clear c40
                   try clear c42
                   try clear c42b0
                   try clear c43
                   try clear c45
                   try clear c48
                   try clear c48b0
                   try clear c49
                   try clear c49b0
                   try clear c50
                   try clear c52
                   try clear c52b0
                   try clear c53
                   try clear c55
                   try clear c57
                   try clear c57b0
                   try clear c58
                   try clear c60
                   try clear c63
                   try clear c64
                   try clear c64b0
                   try clear c65
                   try clear c65b0
                   try clear c66
                   try clear c68
                   try clear c70
                   try clear c70b0
                   try clear c71
                   try clear c73
                   try clear hcz12_0
                   try clear hcz12_1
                   try clear hcz12_2
                   try clear hcz12_3
                   try clear hcz12_4
                   try clear hcz12_5
                   try clear hcz15_0
                   try clear hcz15_1
                   try clear hcz15_2
                   try clear hcz15_3
                   try clear hcz15_4
                   try clear hcz15_5
                   try clear hcz22_0
                   try clear hcz22_1
                   try clear hcz22_2
                   try clear hcz22_3
                   try clear hcz22_4
                   try clear hcz22_5
                   try clear hcz25_0
                   try clear hcz25_1
                   try clear hcz25_2
                   try clear hcz25_3
                   try clear hcz25_4
                   try clear hcz25_5
                   try clear hcz28_0
                   try clear hcz28_1
                   try clear hcz28_2
                   try clear hcz28_3
                   try clear hcz28_4
                   try clear hcz28_5
                   try clear hcz31_0
                   try clear hcz31_1
                   try clear hcz31_2
                   try clear hcz31_3
                   try clear hcz31_4
                   try clear hcz31_5
                   try clear hcz39_0
                   try clear hcz39_1
                   try clear hcz39_2
                   try clear hcz39_3
                   try clear hcz39_4
                   try clear hcz39_5
                   try clear hcz41_0
                   try clear hcz41_1
                   try clear hcz41_2
                   try clear hcz41_3
                   try clear hcz41_4
                   try clear hcz41_5
                   try clear hcz44_0
                   try clear hcz44_1
                   try clear hcz44_2
                   try clear hcz44_3
                   try clear hcz44_4
                   try clear hcz44_5
                   try clear hcz46_0
                   try clear hcz46_1
                   try clear hcz46_2
                   try clear hcz46_3
                   try clear hcz46_4
                   try clear hcz46_5
                   try clear hcz51_0
                   try clear hcz51_1
                   try clear hcz51_2
                   try clear hcz51_3
                   try clear hcz51_4
                   try clear hcz51_5
                   try clear hcz54_0
                   try clear hcz54_1
                   try clear hcz54_2
                   try clear hcz54_3
                   try clear hcz54_4
                   try clear hcz54_5
                   try clear hcz56_0
                   try clear hcz56_1
                   try clear hcz56_2
                   try clear hcz56_3
                   try clear hcz56_4
                   try clear hcz56_5
                   try clear hcz59_0
                   try clear hcz59_1
                   try clear hcz59_2
                   try clear hcz59_3
                   try clear hcz59_4
                   try clear hcz59_5
                   try clear hcz61_0
                   try clear hcz61_1
                   try clear hcz61_2
                   try clear hcz61_3
                   try clear hcz61_4
                   try clear hcz61_5
                   try clear hcz67_0
                   try clear hcz67_1
                   try clear hcz67_2
                   try clear hcz67_3
                   try clear hcz67_4
                   try clear hcz67_5
                   try clear hcz69_0
                   try clear hcz69_1
                   try clear hcz69_2
                   try clear hcz69_3
                   try clear hcz69_4
                   try clear hcz69_5
                   try clear hcz6_0
                   try clear hcz6_1
                   try clear hcz6_2
                   try clear hcz6_3
                   try clear hcz6_4
                   try clear hcz6_5
                   try clear hcz72_0
                   try clear hcz72_1
                   try clear hcz72_2
                   try clear hcz72_3
                   try clear hcz72_4
                   try clear hcz72_5
                   try clear hcz74_0
                   try clear hcz74_1
                   try clear hcz74_2
                   try clear hcz74_3
                   try clear hcz74_4
                   try clear hcz74_5
                   try clear hcz9_0
                   try clear hcz9_1
                   try clear hcz9_2
                   try clear hcz9_3
                   try clear hcz9_4
                   try clear hcz9_5
                   try clear hfz12_0
                   try clear hfz12_1
                   try clear hfz12_2
                   try clear hfz12_3
                   try clear hfz12_4
                   try clear hfz12_5
                   try clear hfz15_0
                   try clear hfz15_1
                   try clear hfz15_2
                   try clear hfz15_3
                   try clear hfz15_4
                   try clear hfz15_5
                   try clear hfz22_0
                   try clear hfz22_1
                   try clear hfz22_2
                   try clear hfz22_3
                   try clear hfz22_4
                   try clear hfz22_5
                   try clear hfz25_0
                   try clear hfz25_1
                   try clear hfz25_2
                   try clear hfz25_3
                   try clear hfz25_4
                   try clear hfz25_5
                   try clear hfz28_0
                   try clear hfz28_1
                   try clear hfz28_2
                   try clear hfz28_3
                   try clear hfz28_4
                   try clear hfz28_5
                   try clear hfz31_0
                   try clear hfz31_1
                   try clear hfz31_2
                   try clear hfz31_3
                   try clear hfz31_4
                   try clear hfz31_5
                   try clear hfz39_0
                   try clear hfz39_1
                   try clear hfz39_2
                   try clear hfz39_3
                   try clear hfz39_4
                   try clear hfz39_5
                   try clear hfz41_0
                   try clear hfz41_1
                   try clear hfz41_2
                   try clear hfz41_3
                   try clear hfz41_4
                   try clear hfz41_5
                   try clear hfz44_0
                   try clear hfz44_1
                   try clear hfz44_2
                   try clear hfz44_3
                   try clear hfz44_4
                   try clear hfz44_5
                   try clear hfz46_0
                   try clear hfz46_1
                   try clear hfz46_2
                   try clear hfz46_3
                   try clear hfz46_4
                   try clear hfz46_5
                   try clear hfz51_0
                   try clear hfz51_1
                   try clear hfz51_2
                   try clear hfz51_3
                   try clear hfz51_4
                   try clear hfz51_5
                   try clear hfz54_0
                   try clear hfz54_1
                   try clear hfz54_2
                   try clear hfz54_3
                   try clear hfz54_4
                   try clear hfz54_5
                   try clear hfz56_0
                   try clear hfz56_1
                   try clear hfz56_2
                   try clear hfz56_3
                   try clear hfz56_4
                   try clear hfz56_5
                   try clear hfz59_0
                   try clear hfz59_1
                   try clear hfz59_2
                   try clear hfz59_3
                   try clear hfz59_4
                   try clear hfz59_5
                   try clear hfz61_0
                   try clear hfz61_1
                   try clear hfz61_2
                   try clear hfz61_3
                   try clear hfz61_4
                   try clear hfz61_5
                   try clear hfz67_0
                   try clear hfz67_1
                   try clear hfz67_2
                   try clear hfz67_3
                   try clear hfz67_4
                   try clear hfz67_5
                   try clear hfz69_0
                   try clear hfz69_1
                   try clear hfz69_2
                   try clear hfz69_3
                   try clear hfz69_4
                   try clear hfz69_5
                   try clear hfz6_0
                   try clear hfz6_1
                   try clear hfz6_2
                   try clear hfz6_3
                   try clear hfz6_4
                   try clear hfz6_5
                   try clear hfz72_0
                   try clear hfz72_1
                   try clear hfz72_2
                   try clear hfz72_3
                   try clear hfz72_4
                   try clear hfz72_5
                   try clear hfz74_0
                   try clear hfz74_1
                   try clear hfz74_2
                   try clear hfz74_3
                   try clear hfz74_4
                   try clear hfz74_5
                   try clear hfz9_0
                   try clear hfz9_1
                   try clear hfz9_2
                   try clear hfz9_3
                   try clear hfz9_4
                   try clear hfz9_5
                   try clear p2
                   try clear p6
                   obtain ⟨kq, x260002_61, x260003_61, HA, HJ61, BK259, BK260, HB⟩ := hcut
                   cases kq with
                   | zero => exact absurd HA.out (by simp [halberdref07_Round.j8])
                   | succ kj61 =>
                    have H := HA.out
                    clear HA
                    simp only [halberdref07_Round.j8] at H
                    have HC75 := Aside0.mk H
                    clear H
                    go_upto_region 26 with (fail)
                    go_cut [145] (fun v145 wc => ∃ (kq : Nat) (x145_74 : Bool), v145 = .bool x145_74 ∧ Aside0 (halberdref07_Round.j9 kq x145_74 a0_0 a0_1 x260002_61 x260003_61 x260004_32 x260005_32 = some (r1, r2, r3, r4, r5, r6, r7)) ∧ Aside0 (kq ≤ kj61) ∧ Aside0 (wc.heap[gb259]? = some (.cells #[.int .u64 a0_0, .int .u64 a0_1, .int .u64 x260002_61, .int .u64 x260003_61, .int .i64 x260004_32, .int .i64 x260005_32] 36 (0, 0))) ∧ Aside0 (wc.heap[gb260]? = some (.cells #[.int .u64 0, .int .u64 0, .int .u64 0, .int .u64 0, .int .i64 0, .int .i64 0] 36 (0, 0))) ∧ Aside0 (Below w.heap.size w wc))
                    case first => as_aux_lemma =>
                     have H := HC75.out
                     clear HC75
                     by_cases c76 : x260002_61 > x260003_61
                     ·rw [if_pos c76] at H
                      have c76b0 : decide (x260003_61 < x260002_61) = true := decide_eq_true c76
                      clear c76
                      (first | rw [c76b0] | (simp only [i64_w, i32_w]; rw [c76b0]) | skip)
                      have H' := Aside0.mk H
                      clear H
                      have hnb77 := NB259_260.out
                      have hnc77 := NB260_259.out
                      have hcz78_0 : wc.cell? ⟨gb259, 0, none⟩ = some (.int .u64 a0_0) := (blk_cell BK259.out 0).trans rfl
                      have hcz78_1 : wc.cell? ⟨gb259, 1, none⟩ = some (.int .u64 a0_1) := (blk_cell BK259.out 1).trans rfl
                      have hcz78_2 : wc.cell? ⟨gb259, 2, none⟩ = some (.int .u64 x260002_61) := (blk_cell BK259.out 2).trans rfl
                      have hcz78_3 : wc.cell? ⟨gb259, 3, none⟩ = some (.int .u64 x260003_61) := (blk_cell BK259.out 3).trans rfl
                      have hcz78_4 : wc.cell? ⟨gb259, 4, none⟩ = some (.int .i64 x260004_32) := (blk_cell BK259.out 4).trans rfl
                      have hcz78_5 : wc.cell? ⟨gb259, 5, none⟩ = some (.int .i64 x260005_32) := (blk_cell BK259.out 5).trans rfl
                      have hfz78_0 := blk_frozen BK259.out 0
                      have hfz78_1 := blk_frozen BK259.out 1
                      have hfz78_2 := blk_frozen BK259.out 2
                      have hfz78_3 := blk_frozen BK259.out 3
                      have hfz78_4 := blk_frozen BK259.out 4
                      have hfz78_5 := blk_frozen BK259.out 5
                      go_wp2
                      go_meet
                      case rel => exact ⟨_, (true), (by first | rfl | (simp; done) | (simp [*]; done)), H', ⟨by have := HJ1.out; have := HJ9.out; have := HJ15.out; have := HJ17.out; have := HJ19.out; have := HJ25.out; have := HJ32.out; have := HJ46.out; have := HJ61.out; first | omega | exact Nat.le_refl _⟩, ⟨by (with_reducible repeat (first | refine blk_drewN ?_ _ | refine blk_drew ?_ | refine blk_alloc ?_ _)); exact BK259.out⟩, ⟨by (with_reducible repeat (first | refine blk_drewN ?_ _ | refine blk_drew ?_ | refine blk_alloc ?_ _)); exact BK260.out⟩, ⟨by repeat (first | (with_reducible first | exact HB.out | apply below_alloc | apply pw_below_drewN | apply below_drew1 | refine below_set ?_ GE259.out | refine below_set ?_ GE260.out) | exact HB.out)⟩⟩
                     ·rw [if_neg c76] at H
                      have c76b0 : decide (x260003_61 < x260002_61) = false := decide_eq_false c76
                      clear c76
                      (first | rw [c76b0] | (simp only [i64_w, i32_w]; rw [c76b0]) | skip)
                      have H' := Aside0.mk H
                      clear H
                      have hnb79 := NB259_260.out
                      have hnc79 := NB260_259.out
                      have hcz80_0 : wc.cell? ⟨gb259, 0, none⟩ = some (.int .u64 a0_0) := (blk_cell BK259.out 0).trans rfl
                      have hcz80_1 : wc.cell? ⟨gb259, 1, none⟩ = some (.int .u64 a0_1) := (blk_cell BK259.out 1).trans rfl
                      have hcz80_2 : wc.cell? ⟨gb259, 2, none⟩ = some (.int .u64 x260002_61) := (blk_cell BK259.out 2).trans rfl
                      have hcz80_3 : wc.cell? ⟨gb259, 3, none⟩ = some (.int .u64 x260003_61) := (blk_cell BK259.out 3).trans rfl
                      have hcz80_4 : wc.cell? ⟨gb259, 4, none⟩ = some (.int .i64 x260004_32) := (blk_cell BK259.out 4).trans rfl
                      have hcz80_5 : wc.cell? ⟨gb259, 5, none⟩ = some (.int .i64 x260005_32) := (blk_cell BK259.out 5).trans rfl
                      have hfz80_0 := blk_frozen BK259.out 0
                      have hfz80_1 := blk_frozen BK259.out 1
                      have hfz80_2 := blk_frozen BK259.out 2
                      have hfz80_3 := blk_frozen BK259.out 3
                      have hfz80_4 := blk_frozen BK259.out 4
                      have hfz80_5 := blk_frozen BK259.out 5
                      go_wp2
                      go_meet
                      case rel => exact ⟨_, (decide (x260004_32 > x260005_32)), (by first | rfl | (simp; done) | (simp [*]; done)), H', ⟨by have := HJ1.out; have := HJ9.out; have := HJ15.out; have := HJ17.out; have := HJ19.out; have := HJ25.out; have := HJ32.out; have := HJ46.out; have := HJ61.out; first | omega | exact Nat.le_refl _⟩, ⟨by (with_reducible repeat (first | refine blk_drewN ?_ _ | refine blk_drew ?_ | refine blk_alloc ?_ _)); exact BK259.out⟩, ⟨by (with_reducible repeat (first | refine blk_drewN ?_ _ | refine blk_drew ?_ | refine blk_alloc ?_ _)); exact BK260.out⟩, ⟨by repeat (first | (with_reducible first | exact HB.out | apply below_alloc | apply pw_below_drewN | apply below_drew1 | refine below_set ?_ GE259.out | refine below_set ?_ GE260.out) | exact HB.out)⟩⟩
                    case rest =>
                     clear HC75
                     try clear c1
                     try clear c2
                     try clear p2
                     try clear c3
                     try clear c4
                     try clear c5
                     try clear c6
                     try clear p6
                     try clear c7
                     try clear c7b0
                     try clear c8
                     try clear c11
                     try clear c13
                     try clear c13b0
                     try clear c14
                     try clear c17
                     try clear c17b0
                     try clear c19
                     try clear c21
                     try clear c23
                     try clear c23b0
                     try clear c24
                     try clear c27
                     try clear c29
                     try clear c29b0
                     try clear c30
                     try clear c32
                     try clear c32b0
                     try clear c32b1
                     try clear c35
                     try clear c35b0
                     try clear c35b1
                     try clear c36
                     try clear c36b0
                     try clear c37
                     try clear c37b0
                     try clear c38
                     try clear c40
                     try clear c42
                     try clear c42b0
                     try clear c43
                     try clear c45
                     try clear c48
                     try clear c48b0
                     try clear c49
                     try clear c49b0
                     try clear c50
                     try clear c52
                     try clear c52b0
                     try clear c53
                     try clear c55
                     try clear c57
                     try clear c57b0
                     try clear c58
                     try clear c60
                     try clear c63
                     try clear c64
                     try clear c64b0
                     try clear c65
                     try clear c65b0
                     try clear c66
                     try clear c68
                     try clear c70
                     try clear c70b0
                     try clear c71
                     try clear c73
                     try clear c76
                     try clear c76b0
                     try clear c77
                     try clear c79
                     try clear hcz12_0
                     try clear hcz12_1
                     try clear hcz12_2
                     try clear hcz12_3
                     try clear hcz12_4
                     try clear hcz12_5
                     try clear hcz15_0
                     try clear hcz15_1
                     try clear hcz15_2
                     try clear hcz15_3
                     try clear hcz15_4
                     try clear hcz15_5
                     try clear hcz22_0
                     try clear hcz22_1
                     try clear hcz22_2
                     try clear hcz22_3
                     try clear hcz22_4
                     try clear hcz22_5
                     try clear hcz25_0
                     try clear hcz25_1
                     try clear hcz25_2
                     try clear hcz25_3
                     try clear hcz25_4
                     try clear hcz25_5
                     try clear hcz28_0
                     try clear hcz28_1
                     try clear hcz28_2
                     try clear hcz28_3
                     try clear hcz28_4
                     try clear hcz28_5
                     try clear hcz31_0
                     try clear hcz31_1
                     try clear hcz31_2
                     try clear hcz31_3
                     try clear hcz31_4
                     try clear hcz31_5
                     try clear hcz39_0
                     try clear hcz39_1
                     try clear hcz39_2
                     try clear hcz39_3
                     try clear hcz39_4
                     try clear hcz39_5
                     try clear hcz41_0
                     try clear hcz41_1
                     try clear hcz41_2
                     try clear hcz41_3
                     try clear hcz41_4
                     try clear hcz41_5
                     try clear hcz44_0
                     try clear hcz44_1
                     try clear hcz44_2
                     try clear hcz44_3
                     try clear hcz44_4
                     try clear hcz44_5
                     try clear hcz46_0
                     try clear hcz46_1
                     try clear hcz46_2
                     try clear hcz46_3
                     try clear hcz46_4
                     try clear hcz46_5
                     try clear hcz51_0
                     try clear hcz51_1
                     try clear hcz51_2
                     try clear hcz51_3
                     try clear hcz51_4
                     try clear hcz51_5
                     try clear hcz54_0
                     try clear hcz54_1
                     try clear hcz54_2
                     try clear hcz54_3
                     try clear hcz54_4
                     try clear hcz54_5
                     try clear hcz56_0
                     try clear hcz56_1
                     try clear hcz56_2
                     try clear hcz56_3
                     try clear hcz56_4
                     try clear hcz56_5
                     try clear hcz59_0
                     try clear hcz59_1
                     try clear hcz59_2
                     try clear hcz59_3
                     try clear hcz59_4
                     try clear hcz59_5
                     try clear hcz61_0
                     try clear hcz61_1
                     try clear hcz61_2
                     try clear hcz61_3
                     try clear hcz61_4
                     try clear hcz61_5
                     try clear hcz67_0
                     try clear hcz67_1
                     try clear hcz67_2
                     try clear hcz67_3
                     try clear hcz67_4
                     try clear hcz67_5
                     try clear hcz69_0
                     try clear hcz69_1
                     try clear hcz69_2
                     try clear hcz69_3
                     try clear hcz69_4
                     try clear hcz69_5
                     try clear hcz6_0
                     try clear hcz6_1
                     try clear hcz6_2
                     try clear hcz6_3
                     try clear hcz6_4
                     try clear hcz6_5
                     try clear hcz72_0
                     try clear hcz72_1
                     try clear hcz72_2
                     try clear hcz72_3
                     try clear hcz72_4
                     try clear hcz72_5
                     try clear hcz74_0
                     try clear hcz74_1
                     try clear hcz74_2
                     try clear hcz74_3
                     try clear hcz74_4
                     try clear hcz74_5
                     try clear hcz78_0
                     try clear hcz78_1
                     try clear hcz78_2
                     try clear hcz78_3
                     try clear hcz78_4
                     try clear hcz78_5
                     try clear hcz80_0
                     try clear hcz80_1
                     try clear hcz80_2
                     try clear hcz80_3
                     try clear hcz80_4
                     try clear hcz80_5
                     try clear hcz9_0
                     try clear hcz9_1
                     try clear hcz9_2
                     try clear hcz9_3
                     try clear hcz9_4
                     try clear hcz9_5
                     try clear hfz12_0
                     try clear hfz12_1
                     try clear hfz12_2
                     try clear hfz12_3
                     try clear hfz12_4
                     try clear hfz12_5
                     try clear hfz15_0
                     try clear hfz15_1
                     try clear hfz15_2
                     try clear hfz15_3
                     try clear hfz15_4
                     try clear hfz15_5
                     try clear hfz22_0
                     try clear hfz22_1
                     try clear hfz22_2
                     try clear hfz22_3
                     try clear hfz22_4
                     try clear hfz22_5
                     try clear hfz25_0
                     try clear hfz25_1
                     try clear hfz25_2
                     try clear hfz25_3
                     try clear hfz25_4
                     try clear hfz25_5
                     try clear hfz28_0
                     try clear hfz28_1
                     try clear hfz28_2
                     try clear hfz28_3
                     try clear hfz28_4
                     try clear hfz28_5
                     try clear hfz31_0
                     try clear hfz31_1
                     try clear hfz31_2
                     try clear hfz31_3
                     try clear hfz31_4
                     try clear hfz31_5
                     try clear hfz39_0
                     try clear hfz39_1
                     try clear hfz39_2
                     try clear hfz39_3
                     try clear hfz39_4
                     try clear hfz39_5
                     try clear hfz41_0
                     try clear hfz41_1
                     try clear hfz41_2
                     try clear hfz41_3
                     try clear hfz41_4
                     try clear hfz41_5
                     try clear hfz44_0
                     try clear hfz44_1
                     try clear hfz44_2
                     try clear hfz44_3
                     try clear hfz44_4
                     try clear hfz44_5
                     try clear hfz46_0
                     try clear hfz46_1
                     try clear hfz46_2
                     try clear hfz46_3
                     try clear hfz46_4
                     try clear hfz46_5
                     try clear hfz51_0
                     try clear hfz51_1
                     try clear hfz51_2
                     try clear hfz51_3
                     try clear hfz51_4
                     try clear hfz51_5
                     try clear hfz54_0
                     try clear hfz54_1
                     try clear hfz54_2
                     try clear hfz54_3
                     try clear hfz54_4
                     try clear hfz54_5
                     try clear hfz56_0
                     try clear hfz56_1
                     try clear hfz56_2
                     try clear hfz56_3
                     try clear hfz56_4
                     try clear hfz56_5
                     try clear hfz59_0
                     try clear hfz59_1
                     try clear hfz59_2
                     try clear hfz59_3
                     try clear hfz59_4
                     try clear hfz59_5
                     try clear hfz61_0
                     try clear hfz61_1
                     try clear hfz61_2
                     try clear hfz61_3
                     try clear hfz61_4
                     try clear hfz61_5
                     try clear hfz67_0
                     try clear hfz67_1
                     try clear hfz67_2
                     try clear hfz67_3
                     try clear hfz67_4
                     try clear hfz67_5
                     try clear hfz69_0
                     try clear hfz69_1
                     try clear hfz69_2
                     try clear hfz69_3
                     try clear hfz69_4
                     try clear hfz69_5
                     try clear hfz6_0
                     try clear hfz6_1
                     try clear hfz6_2
                     try clear hfz6_3
                     try clear hfz6_4
                     try clear hfz6_5
                     try clear hfz72_0
                     try clear hfz72_1
                     try clear hfz72_2
                     try clear hfz72_3
                     try clear hfz72_4
                     try clear hfz72_5
                     try clear hfz74_0
                     try clear hfz74_1
                     try clear hfz74_2
                     try clear hfz74_3
                     try clear hfz74_4
                     try clear hfz74_5
                     try clear hfz78_0
                     try clear hfz78_1
                     try clear hfz78_2
                     try clear hfz78_3
                     try clear hfz78_4
                     try clear hfz78_5
                     try clear hfz80_0
                     try clear hfz80_1
                     try clear hfz80_2
                     try clear hfz80_3
                     try clear hfz80_4
                     try clear hfz80_5
                     try clear hfz9_0
                     try clear hfz9_1
                     try clear hfz9_2
                     try clear hfz9_3
                     try clear hfz9_4
                     try clear hfz9_5
                     try clear p2
                     try clear p6
                     obtain ⟨kq, x145_74, rfl, HA, HJ74, BK259, BK260, HB⟩ := hcut
                     cases kq with
                     | zero => exact absurd HA.out (by simp [halberdref07_Round.j9])
                     | succ kj74 =>
                      have H := HA.out
                      clear HA
                      simp only [halberdref07_Round.j9] at H
                      by_cases c81 : x145_74 = true
                      ·subst c81
                       have H1 : ((halberdref07_All.f).bind fun bt261 => (some (bt261.1, bt261.2.1, bt261.2.2.1, bt261.2.2.2.1, bt261.2.2.2.2.1, bt261.2.2.2.2.2, false))) = some (r1, r2, r3, r4, r5, r6, r7) := by rw [if_pos rfl] at H; exact H
                       clear H
                       have H := H1
                       clear H1
                       replace H := Option.bind_eq_some_iff.mp H
                       obtain ⟨⟨t261, t262, t263, t264, t265, t266⟩, A820, H⟩ := H
                       replace H : (some (t261, t262, t263, t264, t265, t266, false)) = some (r1, r2, r3, r4, r5, r6, r7) := H
                       have A82 := Aside0.mk A820
                       clear A820
                       simp only [Option.some.injEq, Prod.mk.injEq] at H
                       obtain ⟨rfl, rfl, rfl, rfl, rfl, rfl, rfl⟩ := H
                       go_wp2_with (first | ((with_reducible refine gate_callee (f := 30) rfl ?_); refine goesL_ (some 146) rfl rfl Try.func30 (by kernel_rfl) rfl #[] rfl (by (try simp only [List.map_toArray, List.map_cons, List.map_nil]); first | done | rfl | (simp only [List.length_drop, List.length_take]; rfl)) ?_; (with_reducible refine (halberdref07_All.calls  t261 t262 t263 t264 t265 t266 _ A82.out).mono ?_); rintro e w83 ⟨rfl, hb⟩; refine ⟨_, rfl, ?_⟩; have n0_ := Aside0.mk (blk_below (g := gb259) (o := .cells #[.int .u64 a0_0, .int .u64 a0_1, .int .u64 x260002_61, .int .u64 x260003_61, .int .i64 x260004_32, .int .i64 x260005_32] 36 (0, 0)) (by (with_reducible repeat (first | refine blk_drewN ?_ _ | refine blk_drew ?_ | refine blk_alloc ?_ _)); exact BK259.out) hb); have n1_ := Aside0.mk (blk_below (g := gb260) (o := .cells #[.int .u64 0, .int .u64 0, .int .u64 0, .int .u64 0, .int .i64 0, .int .i64 0] 36 (0, 0)) (by (with_reducible repeat (first | refine blk_drewN ?_ _ | refine blk_drew ?_ | refine blk_alloc ?_ _)); exact BK260.out) hb); have n2_ := Aside0.mk (below_step (by repeat (first | (with_reducible first | exact HB.out | apply below_alloc | apply pw_below_drewN | apply below_drew1 | refine below_set ?_ GE259.out | refine below_set ?_ GE260.out) | exact HB.out)) hb); clear BK259; clear BK260; clear HB; have BK259 := n0_; have BK260 := n1_; have HB := n2_; clear n0_ n1_ n2_; (try clear hb); (try clear hb2); (try clear hk); (try clear hi); have hnb84 := NB260_259.out; have hnc84 := NB259_260.out; have hcz85_0 : w83.cell? ⟨gb260, 0, none⟩ = some (.int .u64 0) := (blk_cell BK260.out 0).trans rfl; have hcz85_1 : w83.cell? ⟨gb260, 1, none⟩ = some (.int .u64 0) := (blk_cell BK260.out 1).trans rfl; have hcz85_2 : w83.cell? ⟨gb260, 2, none⟩ = some (.int .u64 0) := (blk_cell BK260.out 2).trans rfl; have hcz85_3 : w83.cell? ⟨gb260, 3, none⟩ = some (.int .u64 0) := (blk_cell BK260.out 3).trans rfl; have hcz85_4 : w83.cell? ⟨gb260, 4, none⟩ = some (.int .i64 0) := (blk_cell BK260.out 4).trans rfl; have hcz85_5 : w83.cell? ⟨gb260, 5, none⟩ = some (.int .i64 0) := (blk_cell BK260.out 5).trans rfl; have hfz85_0 := blk_frozen BK260.out 0; have hfz85_1 := blk_frozen BK260.out 1; have hfz85_2 := blk_frozen BK260.out 2; have hfz85_3 := blk_frozen BK260.out 3; have hfz85_4 := blk_frozen BK260.out 4; have hfz85_5 := blk_frozen BK260.out 5))
                       refine bodyPost_ret (results_ct rfl _ _ gb260 36 #[.int .u64 t261, .int .u64 t262, .int .u64 t263, .int .u64 t264, .int .i64 t265, .int .i64 t266] (0, 0) _ rfl (by (with_reducible repeat (first | refine blk_drewN ?_ _ | refine blk_drew ?_ | refine blk_alloc ?_ _)); refine blk_put (cs := #[.int .u64 t261, .int .u64 t262, .int .u64 t263, .int .u64 t264, .int .i64 t265, .int .i64 0]) ?_ 5 _ rfl; refine blk_put (cs := #[.int .u64 t261, .int .u64 t262, .int .u64 t263, .int .u64 t264, .int .i64 0, .int .i64 0]) ?_ 4 _ rfl; refine blk_put (cs := #[.int .u64 t261, .int .u64 t262, .int .u64 t263, .int .u64 0, .int .i64 0, .int .i64 0]) ?_ 3 _ rfl; refine blk_put (cs := #[.int .u64 t261, .int .u64 t262, .int .u64 0, .int .u64 0, .int .i64 0, .int .i64 0]) ?_ 2 _ rfl; refine blk_put (cs := #[.int .u64 t261, .int .u64 0, .int .u64 0, .int .u64 0, .int .i64 0, .int .i64 0]) ?_ 1 _ rfl; refine blk_put (cs := #[.int .u64 0, .int .u64 0, .int .u64 0, .int .u64 0, .int .i64 0, .int .i64 0]) ?_ 0 _ rfl; (with_reducible repeat (first | refine blk_drewN ?_ _ | refine blk_drew ?_ | refine blk_alloc ?_ _)); exact BK260.out) Try.underlying36 rfl (by kernel_rfl)) rfl ?_
                       exact ⟨by first | rfl | (simp [errW_none, errW_some] <;> rfl) | (simp [*, errW_none, errW_some] <;> rfl), by repeat (first | (with_reducible first | exact HB.out | apply below_alloc | apply pw_below_drewN | apply below_drew1 | refine below_set ?_ GE259.out | refine below_set ?_ GE260.out) | exact HB.out)⟩
                      ·replace c81 := Bool.eq_false_iff.mpr c81
                       subst c81
                       have H1 : ((halberdref06_Range.f kj74 x260002_61 x260003_61).bind fun bt267 => ((halberdref06_Meet.f kj74 a0_0 a0_1 bt267.1 bt267.2).bind fun bt269 => (if bt269.2.2 = true then (some (bt269.1, bt269.2.1, x260002_61, x260003_61, x260004_32, x260005_32, true)) else ((halberdref07_All.f).bind fun bt273 => (some (bt273.1, bt273.2.1, bt273.2.2.1, bt273.2.2.2.1, bt273.2.2.2.2.1, bt273.2.2.2.2.2, false)))))) = some (r1, r2, r3, r4, r5, r6, r7) := by rw [if_neg (show ¬ (false = true) by decide)] at H; exact H
                       clear H
                       have H := H1
                       clear H1
                       replace H := Option.bind_eq_some_iff.mp H
                       obtain ⟨⟨t267, t268⟩, A860, H⟩ := H
                       replace H : ((halberdref06_Meet.f kj74 a0_0 a0_1 t267 t268).bind fun bt269 => (if bt269.2.2 = true then (some (bt269.1, bt269.2.1, x260002_61, x260003_61, x260004_32, x260005_32, true)) else ((halberdref07_All.f).bind fun bt273 => (some (bt273.1, bt273.2.1, bt273.2.2.1, bt273.2.2.2.1, bt273.2.2.2.2.1, bt273.2.2.2.2.2, false))))) = some (r1, r2, r3, r4, r5, r6, r7) := H
                       have A86 := Aside0.mk A860
                       clear A860
                       replace H := Option.bind_eq_some_iff.mp H
                       obtain ⟨⟨t269, t270, t271⟩, A870, H⟩ := H
                       replace H : (if t271 = true then (some (t269, t270, x260002_61, x260003_61, x260004_32, x260005_32, true)) else ((halberdref07_All.f).bind fun bt273 => (some (bt273.1, bt273.2.1, bt273.2.2.1, bt273.2.2.2.1, bt273.2.2.2.2.1, bt273.2.2.2.2.2, false)))) = some (r1, r2, r3, r4, r5, r6, r7) := H
                       have A87 := Aside0.mk A870
                       clear A870
                       by_cases c88 : t271 = true
                       ·subst c88
                        have H1 : (some (t269, t270, x260002_61, x260003_61, x260004_32, x260005_32, true)) = some (r1, r2, r3, r4, r5, r6, r7) := by rw [if_pos rfl] at H; exact H
                        clear H
                        have H := H1
                        clear H1
                        simp only [Option.some.injEq, Prod.mk.injEq] at H
                        obtain ⟨rfl, rfl, rfl, rfl, rfl, rfl, rfl⟩ := H
                        try go_wp2
                        have n0_ := Aside0.mk (blk_drew BK259.out)
                        have n1_ := Aside0.mk (blk_drew BK260.out)
                        have n2_ := Aside0.mk (below_drew1 HB.out)
                        clear BK259
                        clear BK260
                        clear HB
                        have BK259 := n0_
                        have BK260 := n1_
                        have HB := n2_
                        clear n0_ n1_ n2_
                        refine start_ (n := 14) (S := fun w' => w'.cell? ⟨gb259, 0, none⟩ = some (.int .u64 a0_0) ∧ w'.cell? ⟨gb259, 1, none⟩ = some (.int .u64 a0_1) ∧ w'.cell? ⟨gb259, 2, none⟩ = some (.int .u64 x260002_61) ∧ w'.cell? ⟨gb259, 3, none⟩ = some (.int .u64 x260003_61) ∧ w'.cell? ⟨gb259, 4, none⟩ = some (.int .i64 x260004_32) ∧ w'.cell? ⟨gb259, 5, none⟩ = some (.int .i64 x260005_32)) (ds := []) #[false, false, false, false, false, false, false, false, false, false, false, false, false, false] (by kernel_rfl) rfl rfl ⟨(blk_cell BK259.out 0).trans rfl, (blk_cell BK259.out 1).trans rfl, (blk_cell BK259.out 2).trans rfl, (blk_cell BK259.out 3).trans rfl, (blk_cell BK259.out 4).trans rfl, (blk_cell BK259.out 5).trans rfl⟩ (fun hHeld => ?_); refine with_tabW halberdref07_Round.tab28 halberdref07_Round.bits28 (fun HT_ HW_ => ?_)
                        generalize wc.drew = w89 at BK259 BK260 HB hHeld ⊢
                        refine pure_ (i := 0) (N := some 148) (v := ?_) (a' := ?_) #[true, false, false, false, false, false, false, false, false, false, false, false, false, false] rfl rfl (any_of HT_.out (by kernel_rfl)) (fun _ _ _ h => h) (Or.inl ⟨by rfl, ?_⟩) ?_ ?_
                        rotate_left
                        ·intro w'
                         go_simp
                         with_reducible rfl
                        rotate_left
                        ·simp only [Act.put, List.setIfInBounds_toArray, List.set_cons_zero, List.set_cons_succ, i64_w, i32_w]
                         rfl
                        refine pure_ (i := 2) (N := some 150) (v := ?_) (a' := ?_) #[true, false, true, false, false, false, false, false, false, false, false, false, false, false] rfl rfl (any_of HT_.out (by kernel_rfl)) (fun _ _ _ h => h) (Or.inl ⟨by rfl, ?_⟩) ?_ ?_
                        rotate_left
                        ·intro w'
                         go_simp
                         with_reducible rfl
                        rotate_left
                        ·simp only [Act.put, List.setIfInBounds_toArray, List.set_cons_zero, List.set_cons_succ, i64_w, i32_w]
                         rfl
                        refine pure_ (i := 4) (N := some 152) (v := ?_) (a' := ?_) #[true, false, true, false, true, false, false, false, false, false, false, false, false, false] rfl rfl (any_of HT_.out (by kernel_rfl)) (fun _ _ _ h => h) (Or.inl ⟨by rfl, ?_⟩) ?_ ?_
                        rotate_left
                        ·intro w'
                         go_simp
                         with_reducible rfl
                        rotate_left
                        ·simp only [Act.put, List.setIfInBounds_toArray, List.set_cons_zero, List.set_cons_succ, i64_w, i32_w]
                         rfl
                        refine take_ (i := 1) (N := some 149) (v := ?_) (a' := ?_) #[true, true, true, false, true, false, false, false, false, false, false, false, false, false] rfl rfl (take_ofW HT_.out HW_.out (by kernel_rfl)) (fun _ _ _ h => h) (Or.inl ⟨by rfl, ?_⟩) hHeld ?_ ?_
                        rotate_left
                        ·rintro w' ⟨s0, s1, s2, s3, s4, s5⟩
                         go_simp
                         with_reducible rfl
                        rotate_left
                        ·simp only [Act.put, List.setIfInBounds_toArray, List.set_cons_zero, List.set_cons_succ, i64_w, i32_w]
                         rfl
                        refine take_ (i := 3) (N := some 151) (v := ?_) (a' := ?_) #[true, true, true, true, true, false, false, false, false, false, false, false, false, false] rfl rfl (take_ofW HT_.out HW_.out (by kernel_rfl)) (fun _ _ _ h => h) (Or.inl ⟨by rfl, ?_⟩) hHeld ?_ ?_
                        rotate_left
                        ·rintro w' ⟨s0, s1, s2, s3, s4, s5⟩
                         go_simp
                         with_reducible rfl
                        rotate_left
                        ·simp only [Act.put, List.setIfInBounds_toArray, List.set_cons_zero, List.set_cons_succ, i64_w, i32_w]
                         rfl
                        refine take_ (i := 5) (N := some 153) (v := ?_) (a' := ?_) #[true, true, true, true, true, true, false, false, false, false, false, false, false, false] rfl rfl (take_ofW HT_.out HW_.out (by kernel_rfl)) (fun _ _ _ h => h) (Or.inl ⟨by rfl, ?_⟩) hHeld ?_ ?_
                        rotate_left
                        ·rintro w' ⟨s0, s1, s2, s3, s4, s5⟩
                         go_simp
                         with_reducible rfl
                        rotate_left
                        ·simp only [Act.put, List.setIfInBounds_toArray, List.set_cons_zero, List.set_cons_succ, i64_w, i32_w]
                         rfl
                        refine join_ (σ := Nat) 2 #[true, true, true, true, true, true, true, true, true, true, true, true, false, false] (fun s_ => [(154, .agg #[.int .u64 t267, .int .u64 t268]), (155, .tuple #[.agg #[.int .u64 t269, .int .u64 t270], .bool true]), (9, .pointer (some ⟨s_, 0, none⟩)), (147, .tuple #[.agg #[.int .u64 t269, .int .u64 t270], .bool true]), (156, .agg #[.int .u64 t269, .int .u64 t270]), (157, .bool true)]) (fun s_ w' => (w'.cell? ⟨gb259, 0, none⟩ = some (.int .u64 a0_0) ∧ w'.cell? ⟨gb259, 1, none⟩ = some (.int .u64 a0_1) ∧ w'.cell? ⟨gb259, 2, none⟩ = some (.int .u64 x260002_61) ∧ w'.cell? ⟨gb259, 3, none⟩ = some (.int .u64 x260003_61) ∧ w'.cell? ⟨gb259, 4, none⟩ = some (.int .i64 x260004_32) ∧ w'.cell? ⟨gb259, 5, none⟩ = some (.int .i64 x260005_32)) ∧ (w'.heap[gb259]? = some (.cells #[.int .u64 a0_0, .int .u64 a0_1, .int .u64 x260002_61, .int .u64 x260003_61, .int .i64 x260004_32, .int .i64 x260005_32] 36 (0, 0))) ∧ (w'.heap[gb260]? = some (.cells #[.int .u64 0, .int .u64 0, .int .u64 0, .int .u64 0, .int .i64 0, .int .i64 0] 36 (0, 0))) ∧ (w'.heap[s_]? = some (.cells #[.int .u64 0, .int .u64 0] 34 (0, 0))) ∧ (w.heap.size ≤ s_) ∧ (w.heap.size ≤ s_) ∧ (gb259 ≠ s_) ∧ (s_ ≠ gb259) ∧ (gb260 ≠ s_) ∧ (s_ ≠ gb260) ∧ (Below w.heap.size w w')) ?_ ?_
                        rotate_left
                        ·intro hCont
                         refine two_ (i := 6) (j := 11) (Ni := some 154) (Nj := some 9) #[true, true, true, true, true, true, true, false, false, false, false, false, false, false] #[true, true, true, true, true, true, false, false, false, false, false, true, false, false] rfl rfl rfl rfl (two_of HT_.out (by kernel_rfl)) (by decide) (by decide) (fun K hK => ?_) (fun K hK => ?_)
                         ·skip
                          refine goes_ Try.func86 (by kernel_rfl) rfl #[.int .u64 x260002_61, .int .u64 x260003_61] (by rfl) rfl rfl (by (try simp only [List.map_toArray, List.map_cons, List.map_nil]); first | done | rfl | (simp only [List.length_drop, List.length_take]; rfl)) ?_
                          with_reducible refine (halberdref06_Range.calls kj74 x260002_61 x260003_61 t267 t268 _ A86.out).mono ?_
                          rintro e w90 ⟨rfl, hb⟩
                          refine ⟨_, rfl, ?_⟩
                          have n0_ := Aside0.mk (blk_below (g := gb259) (o := .cells #[.int .u64 a0_0, .int .u64 a0_1, .int .u64 x260002_61, .int .u64 x260003_61, .int .i64 x260004_32, .int .i64 x260005_32] 36 (0, 0)) (by (with_reducible repeat (first | refine blk_drewN ?_ _ | refine blk_drew ?_ | refine blk_alloc ?_ _)); exact BK259.out) hb)
                          have n1_ := Aside0.mk (blk_below (g := gb260) (o := .cells #[.int .u64 0, .int .u64 0, .int .u64 0, .int .u64 0, .int .i64 0, .int .i64 0] 36 (0, 0)) (by (with_reducible repeat (first | refine blk_drewN ?_ _ | refine blk_drew ?_ | refine blk_alloc ?_ _)); exact BK260.out) hb)
                          have n2_ := Aside0.mk (below_step (by repeat (first | (with_reducible first | exact HB.out | apply below_alloc | apply pw_below_drewN | apply below_drew1 | refine below_set ?_ GE259.out | refine below_set ?_ GE260.out) | exact HB.out)) hb)
                          clear BK259
                          clear BK260
                          clear HB
                          have BK259 := n0_
                          have BK260 := n1_
                          have HB := n2_
                          clear n0_ n1_ n2_
                          (try clear hb)
                          (try clear hb2)
                          (try clear hk)
                          (try clear hi)
                          refine hK.out _ _ ⟨(blk_cell BK259.out 0).trans rfl, (blk_cell BK259.out 1).trans rfl, (blk_cell BK259.out 2).trans rfl, (blk_cell BK259.out 3).trans rfl, (blk_cell BK259.out 4).trans rfl, (blk_cell BK259.out 5).trans rfl⟩ (fun hHeld => ?_)
                          clear hK K
                          refine norm_ (a' := ?_) ?_ ?_
                          rotate_left
                          ·show Act.put _ (some 154) _ = _
                           simp only [Act.put, List.setIfInBounds_toArray, List.set_cons_zero, List.set_cons_succ, i64_w, i32_w]
                           rfl
                          refine two_ (i := 7) (j := 11) (Ni := some 155) (Nj := some 9) #[true, true, true, true, true, true, true, true, false, false, false, false, false, false] #[true, true, true, true, true, true, true, false, false, false, false, true, false, false] rfl rfl rfl rfl (two_of HT_.out (by kernel_rfl)) (by decide) (by decide) (fun K hK => ?_) (fun K hK => ?_)
                          ·skip
                           refine goes_ Try.func85 (by kernel_rfl) rfl #[.agg #[.int .u64 a0_0, .int .u64 a0_1], .agg #[.int .u64 t267, .int .u64 t268]] (by rfl) rfl rfl (by (try simp only [List.map_toArray, List.map_cons, List.map_nil]); first | done | rfl | (simp only [List.length_drop, List.length_take]; rfl)) ?_
                           with_reducible refine (halberdref06_Meet.calls kj74 a0_0 a0_1 t267 t268 t269 t270 true _ A87.out).mono ?_
                           rintro e w91 ⟨rfl, hb⟩
                           refine ⟨_, rfl, ?_⟩
                           have n0_ := Aside0.mk (blk_below (g := gb259) (o := .cells #[.int .u64 a0_0, .int .u64 a0_1, .int .u64 x260002_61, .int .u64 x260003_61, .int .i64 x260004_32, .int .i64 x260005_32] 36 (0, 0)) (by (with_reducible repeat (first | refine blk_drewN ?_ _ | refine blk_drew ?_ | refine blk_alloc ?_ _)); exact BK259.out) hb)
                           have n1_ := Aside0.mk (blk_below (g := gb260) (o := .cells #[.int .u64 0, .int .u64 0, .int .u64 0, .int .u64 0, .int .i64 0, .int .i64 0] 36 (0, 0)) (by (with_reducible repeat (first | refine blk_drewN ?_ _ | refine blk_drew ?_ | refine blk_alloc ?_ _)); exact BK260.out) hb)
                           have n2_ := Aside0.mk (below_step (by repeat (first | (with_reducible first | exact HB.out | apply below_alloc | apply pw_below_drewN | apply below_drew1 | refine below_set ?_ GE259.out | refine below_set ?_ GE260.out) | exact HB.out)) hb)
                           clear BK259
                           clear BK260
                           clear HB
                           have BK259 := n0_
                           have BK260 := n1_
                           have HB := n2_
                           clear n0_ n1_ n2_
                           (try clear hb)
                           (try clear hb2)
                           (try clear hk)
                           (try clear hi)
                           refine hK.out _ _ ⟨(blk_cell BK259.out 0).trans rfl, (blk_cell BK259.out 1).trans rfl, (blk_cell BK259.out 2).trans rfl, (blk_cell BK259.out 3).trans rfl, (blk_cell BK259.out 4).trans rfl, (blk_cell BK259.out 5).trans rfl⟩ (fun hHeld => ?_)
                           clear hK K
                           refine norm_ (a' := ?_) ?_ ?_
                           rotate_left
                           ·show Act.put _ (some 155) _ = _
                            simp only [Act.put, List.setIfInBounds_toArray, List.set_cons_zero, List.set_cons_succ, i64_w, i32_w]
                            rfl
                           refine pure_ (i := 8) (N := some 147) (v := ?_) (a' := ?_) #[true, true, true, true, true, true, true, true, true, false, false, false, false, false] rfl rfl (any_of HT_.out (by kernel_rfl)) (fun _ _ _ h => h) (Or.inl ⟨by rfl, ?_⟩) ?_ ?_
                           rotate_left
                           ·intro w'
                            go_simp
                            with_reducible rfl
                           rotate_left
                           ·simp only [Act.put, List.setIfInBounds_toArray, List.set_cons_zero, List.set_cons_succ, i64_w, i32_w]
                            rfl
                           refine pure_ (i := 9) (N := some 156) (v := ?_) (a' := ?_) #[true, true, true, true, true, true, true, true, true, true, false, false, false, false] rfl rfl (any_of HT_.out (by kernel_rfl)) (fun _ _ _ h => h) (Or.inl ⟨by rfl, ?_⟩) ?_ ?_
                           rotate_left
                           ·intro w'
                            go_simp
                            with_reducible rfl
                           rotate_left
                           ·simp only [Act.put, List.setIfInBounds_toArray, List.set_cons_zero, List.set_cons_succ, i64_w, i32_w]
                            rfl
                           refine pure_ (i := 10) (N := some 157) (v := ?_) (a' := ?_) #[true, true, true, true, true, true, true, true, true, true, true, false, false, false] rfl rfl (any_of HT_.out (by kernel_rfl)) (fun _ _ _ h => h) (Or.inl ⟨by rfl, ?_⟩) ?_ ?_
                           rotate_left
                           ·intro w'
                            go_simp
                            with_reducible rfl
                           rotate_left
                           ·simp only [Act.put, List.setIfInBounds_toArray, List.set_cons_zero, List.set_cons_succ, i64_w, i32_w]
                            rfl
                           refine one_ (i := 11) (N := some 9) #[true, true, true, true, true, true, true, true, true, true, true, true, false, false] rfl rfl (one_of HT_.out (by kernel_rfl)) (by decide) (fun K hK => ?_)
                           refine box_step ?hg (N := 9) ?hd (cs := #[.int .u64 0, .int .u64 0]) (t := 34) ?hr ?_; (case hd => rfl); (case hg => rfl); (case hr => first | (go_simp; done) | (go_simp; rfl))
                           intro gb272 hg w92 hbox hb
                           have n0_ := Aside0.mk (blk_below (g := gb259) (o := .cells #[.int .u64 a0_0, .int .u64 a0_1, .int .u64 x260002_61, .int .u64 x260003_61, .int .i64 x260004_32, .int .i64 x260005_32] 36 (0, 0)) (by (with_reducible repeat (first | refine blk_drewN ?_ _ | refine blk_drew ?_ | refine blk_alloc ?_ _)); exact BK259.out) hb)
                           have n1_ := Aside0.mk (blk_below (g := gb260) (o := .cells #[.int .u64 0, .int .u64 0, .int .u64 0, .int .u64 0, .int .i64 0, .int .i64 0] 36 (0, 0)) (by (with_reducible repeat (first | refine blk_drewN ?_ _ | refine blk_drew ?_ | refine blk_alloc ?_ _)); exact BK260.out) hb)
                           have n2_ := Aside0.mk (below_step (by repeat (first | (with_reducible first | exact HB.out | apply below_alloc | apply pw_below_drewN | apply below_drew1 | refine below_set ?_ GE259.out | refine below_set ?_ GE260.out) | exact HB.out)) hb)
                           have n3_ := Aside0.mk (hbox)
                           have n4_ := Aside0.mk ((by rw [hg]; exact (below_size (by repeat (first | (with_reducible first | exact HB.out | apply below_alloc | apply pw_below_drewN | apply below_drew1 | refine below_set ?_ GE259.out | refine below_set ?_ GE260.out) | exact HB.out))) : w.heap.size ≤ gb272))
                           have n5_ := Aside0.mk ((by rw [hg]; exact (below_size (by repeat (first | (with_reducible first | exact HB.out | apply below_alloc | apply pw_below_drewN | apply below_drew1 | refine below_set ?_ GE259.out | refine below_set ?_ GE260.out) | exact HB.out))) : w.heap.size ≤ gb272))
                           have n6_ := Aside0.mk ((by rw [hg]; exact Nat.ne_of_lt (blk_lt (g := gb259) (o := .cells #[.int .u64 a0_0, .int .u64 a0_1, .int .u64 x260002_61, .int .u64 x260003_61, .int .i64 x260004_32, .int .i64 x260005_32] 36 (0, 0)) (by (with_reducible repeat (first | refine blk_drewN ?_ _ | refine blk_drew ?_ | refine blk_alloc ?_ _)); exact BK259.out)) : gb259 ≠ gb272))
                           have n7_ := Aside0.mk ((by rw [hg]; exact Nat.ne_of_gt (blk_lt (g := gb259) (o := .cells #[.int .u64 a0_0, .int .u64 a0_1, .int .u64 x260002_61, .int .u64 x260003_61, .int .i64 x260004_32, .int .i64 x260005_32] 36 (0, 0)) (by (with_reducible repeat (first | refine blk_drewN ?_ _ | refine blk_drew ?_ | refine blk_alloc ?_ _)); exact BK259.out)) : gb272 ≠ gb259))
                           have n8_ := Aside0.mk ((by rw [hg]; exact Nat.ne_of_lt (blk_lt (g := gb260) (o := .cells #[.int .u64 0, .int .u64 0, .int .u64 0, .int .u64 0, .int .i64 0, .int .i64 0] 36 (0, 0)) (by (with_reducible repeat (first | refine blk_drewN ?_ _ | refine blk_drew ?_ | refine blk_alloc ?_ _)); exact BK260.out)) : gb260 ≠ gb272))
                           have n9_ := Aside0.mk ((by rw [hg]; exact Nat.ne_of_gt (blk_lt (g := gb260) (o := .cells #[.int .u64 0, .int .u64 0, .int .u64 0, .int .u64 0, .int .i64 0, .int .i64 0] 36 (0, 0)) (by (with_reducible repeat (first | refine blk_drewN ?_ _ | refine blk_drew ?_ | refine blk_alloc ?_ _)); exact BK260.out)) : gb272 ≠ gb260))
                           clear BK259
                           clear BK260
                           clear HB
                           have BK259 := n0_
                           have BK260 := n1_
                           have HB := n2_
                           have BK272 := n3_
                           have GW272 := n4_
                           have GE272 := n5_
                           have NB259_272 := n6_
                           have NB272_259 := n7_
                           have NB260_272 := n8_
                           have NB272_260 := n9_
                           clear n0_ n1_ n2_ n3_ n4_ n5_ n6_ n7_ n8_ n9_
                           clear hb hbox hg
                           refine hK.out _ _ ⟨(blk_cell BK259.out 0).trans rfl, (blk_cell BK259.out 1).trans rfl, (blk_cell BK259.out 2).trans rfl, (blk_cell BK259.out 3).trans rfl, (blk_cell BK259.out 4).trans rfl, (blk_cell BK259.out 5).trans rfl⟩ (fun hHeld => ?_)
                           clear hK K
                           refine norm_ (a' := ?_) ?_ ?_
                           rotate_left
                           ·show Act.put _ (some 9) _ = _
                            simp only [Act.put, List.setIfInBounds_toArray, List.set_cons_zero, List.set_cons_succ, i64_w, i32_w]
                            rfl
                           exact norm_ (by simp only [putAll, Act.put, List.setIfInBounds_toArray, List.set_cons_zero, List.set_cons_succ]) (hCont (gb272) _ ⟨hHeld, (by (with_reducible repeat (first | refine blk_drewN ?_ _ | refine blk_drew ?_ | refine blk_alloc ?_ _)); exact BK259.out), (by (with_reducible repeat (first | refine blk_drewN ?_ _ | refine blk_drew ?_ | refine blk_alloc ?_ _)); exact BK260.out), (by (with_reducible repeat (first | refine blk_drewN ?_ _ | refine blk_drew ?_ | refine blk_alloc ?_ _)); exact BK272.out), GW272.out, GE272.out, NB259_272.out, NB272_259.out, NB260_272.out, NB272_260.out, (by repeat (first | (with_reducible first | exact HB.out | apply below_alloc | apply pw_below_drewN | apply below_drew1 | refine below_set ?_ GE259.out | refine below_set ?_ GE260.out | refine below_set ?_ GE272.out) | exact HB.out))⟩)
                          ·skip
                           refine box_step ?hg (N := 9) ?hd (cs := #[.int .u64 0, .int .u64 0]) (t := 34) ?hr ?_; (case hd => rfl); (case hg => rfl); (case hr => first | (go_simp; done) | (go_simp; rfl))
                           intro gb272 hg w91 hbox hb
                           have n0_ := Aside0.mk (blk_below (g := gb259) (o := .cells #[.int .u64 a0_0, .int .u64 a0_1, .int .u64 x260002_61, .int .u64 x260003_61, .int .i64 x260004_32, .int .i64 x260005_32] 36 (0, 0)) (by (with_reducible repeat (first | refine blk_drewN ?_ _ | refine blk_drew ?_ | refine blk_alloc ?_ _)); exact BK259.out) hb)
                           have n1_ := Aside0.mk (blk_below (g := gb260) (o := .cells #[.int .u64 0, .int .u64 0, .int .u64 0, .int .u64 0, .int .i64 0, .int .i64 0] 36 (0, 0)) (by (with_reducible repeat (first | refine blk_drewN ?_ _ | refine blk_drew ?_ | refine blk_alloc ?_ _)); exact BK260.out) hb)
                           have n2_ := Aside0.mk (below_step (by repeat (first | (with_reducible first | exact HB.out | apply below_alloc | apply pw_below_drewN | apply below_drew1 | refine below_set ?_ GE259.out | refine below_set ?_ GE260.out) | exact HB.out)) hb)
                           have n3_ := Aside0.mk (hbox)
                           have n4_ := Aside0.mk ((by rw [hg]; exact (below_size (by repeat (first | (with_reducible first | exact HB.out | apply below_alloc | apply pw_below_drewN | apply below_drew1 | refine below_set ?_ GE259.out | refine below_set ?_ GE260.out) | exact HB.out))) : w.heap.size ≤ gb272))
                           have n5_ := Aside0.mk ((by rw [hg]; exact (below_size (by repeat (first | (with_reducible first | exact HB.out | apply below_alloc | apply pw_below_drewN | apply below_drew1 | refine below_set ?_ GE259.out | refine below_set ?_ GE260.out) | exact HB.out))) : w.heap.size ≤ gb272))
                           have n6_ := Aside0.mk ((by rw [hg]; exact Nat.ne_of_lt (blk_lt (g := gb259) (o := .cells #[.int .u64 a0_0, .int .u64 a0_1, .int .u64 x260002_61, .int .u64 x260003_61, .int .i64 x260004_32, .int .i64 x260005_32] 36 (0, 0)) (by (with_reducible repeat (first | refine blk_drewN ?_ _ | refine blk_drew ?_ | refine blk_alloc ?_ _)); exact BK259.out)) : gb259 ≠ gb272))
                           have n7_ := Aside0.mk ((by rw [hg]; exact Nat.ne_of_gt (blk_lt (g := gb259) (o := .cells #[.int .u64 a0_0, .int .u64 a0_1, .int .u64 x260002_61, .int .u64 x260003_61, .int .i64 x260004_32, .int .i64 x260005_32] 36 (0, 0)) (by (with_reducible repeat (first | refine blk_drewN ?_ _ | refine blk_drew ?_ | refine blk_alloc ?_ _)); exact BK259.out)) : gb272 ≠ gb259))
                           have n8_ := Aside0.mk ((by rw [hg]; exact Nat.ne_of_lt (blk_lt (g := gb260) (o := .cells #[.int .u64 0, .int .u64 0, .int .u64 0, .int .u64 0, .int .i64 0, .int .i64 0] 36 (0, 0)) (by (with_reducible repeat (first | refine blk_drewN ?_ _ | refine blk_drew ?_ | refine blk_alloc ?_ _)); exact BK260.out)) : gb260 ≠ gb272))
                           have n9_ := Aside0.mk ((by rw [hg]; exact Nat.ne_of_gt (blk_lt (g := gb260) (o := .cells #[.int .u64 0, .int .u64 0, .int .u64 0, .int .u64 0, .int .i64 0, .int .i64 0] 36 (0, 0)) (by (with_reducible repeat (first | refine blk_drewN ?_ _ | refine blk_drew ?_ | refine blk_alloc ?_ _)); exact BK260.out)) : gb272 ≠ gb260))
                           clear BK259
                           clear BK260
                           clear HB
                           have BK259 := n0_
                           have BK260 := n1_
                           have HB := n2_
                           have BK272 := n3_
                           have GW272 := n4_
                           have GE272 := n5_
                           have NB259_272 := n6_
                           have NB272_259 := n7_
                           have NB260_272 := n8_
                           have NB272_260 := n9_
                           clear n0_ n1_ n2_ n3_ n4_ n5_ n6_ n7_ n8_ n9_
                           clear hb hbox hg
                           refine hK.out _ _ ⟨(blk_cell BK259.out 0).trans rfl, (blk_cell BK259.out 1).trans rfl, (blk_cell BK259.out 2).trans rfl, (blk_cell BK259.out 3).trans rfl, (blk_cell BK259.out 4).trans rfl, (blk_cell BK259.out 5).trans rfl⟩ (fun hHeld => ?_)
                           clear hK K
                           refine norm_ (a' := ?_) ?_ ?_
                           rotate_left
                           ·show Act.put _ (some 9) _ = _
                            simp only [Act.put, List.setIfInBounds_toArray, List.set_cons_zero, List.set_cons_succ, i64_w, i32_w]
                            rfl
                           refine one_ (i := 7) (N := some 155) #[true, true, true, true, true, true, true, true, false, false, false, true, false, false] rfl rfl (one_of HT_.out (by kernel_rfl)) (by decide) (fun K hK => ?_)
                           refine goes_ Try.func85 (by kernel_rfl) rfl #[.agg #[.int .u64 a0_0, .int .u64 a0_1], .agg #[.int .u64 t267, .int .u64 t268]] (by rfl) rfl rfl (by (try simp only [List.map_toArray, List.map_cons, List.map_nil]); first | done | rfl | (simp only [List.length_drop, List.length_take]; rfl)) ?_
                           with_reducible refine (halberdref06_Meet.calls kj74 a0_0 a0_1 t267 t268 t269 t270 true _ A87.out).mono ?_
                           rintro e w92 ⟨rfl, hb⟩
                           refine ⟨_, rfl, ?_⟩
                           have n0_ := Aside0.mk (blk_below (g := gb259) (o := .cells #[.int .u64 a0_0, .int .u64 a0_1, .int .u64 x260002_61, .int .u64 x260003_61, .int .i64 x260004_32, .int .i64 x260005_32] 36 (0, 0)) (by (with_reducible repeat (first | refine blk_drewN ?_ _ | refine blk_drew ?_ | refine blk_alloc ?_ _)); exact BK259.out) hb)
                           have n1_ := Aside0.mk (blk_below (g := gb260) (o := .cells #[.int .u64 0, .int .u64 0, .int .u64 0, .int .u64 0, .int .i64 0, .int .i64 0] 36 (0, 0)) (by (with_reducible repeat (first | refine blk_drewN ?_ _ | refine blk_drew ?_ | refine blk_alloc ?_ _)); exact BK260.out) hb)
                           have n2_ := Aside0.mk (blk_below (g := gb272) (o := .cells #[.int .u64 0, .int .u64 0] 34 (0, 0)) (by (with_reducible repeat (first | refine blk_drewN ?_ _ | refine blk_drew ?_ | refine blk_alloc ?_ _)); exact BK272.out) hb)
                           have n3_ := Aside0.mk (below_step (by repeat (first | (with_reducible first | exact HB.out | apply below_alloc | apply pw_below_drewN | apply below_drew1 | refine below_set ?_ GE259.out | refine below_set ?_ GE260.out | refine below_set ?_ GE272.out) | exact HB.out)) hb)
                           clear BK259
                           clear BK260
                           clear BK272
                           clear HB
                           have BK259 := n0_
                           have BK260 := n1_
                           have BK272 := n2_
                           have HB := n3_
                           clear n0_ n1_ n2_ n3_
                           (try clear hb)
                           (try clear hb2)
                           (try clear hk)
                           (try clear hi)
                           refine hK.out _ _ ⟨(blk_cell BK259.out 0).trans rfl, (blk_cell BK259.out 1).trans rfl, (blk_cell BK259.out 2).trans rfl, (blk_cell BK259.out 3).trans rfl, (blk_cell BK259.out 4).trans rfl, (blk_cell BK259.out 5).trans rfl⟩ (fun hHeld => ?_)
                           clear hK K
                           refine norm_ (a' := ?_) ?_ ?_
                           rotate_left
                           ·show Act.put _ (some 155) _ = _
                            simp only [Act.put, List.setIfInBounds_toArray, List.set_cons_zero, List.set_cons_succ, i64_w, i32_w]
                            rfl
                           refine pure_ (i := 8) (N := some 147) (v := ?_) (a' := ?_) #[true, true, true, true, true, true, true, true, true, false, false, true, false, false] rfl rfl (any_of HT_.out (by kernel_rfl)) (fun _ _ _ h => h) (Or.inl ⟨by rfl, ?_⟩) ?_ ?_
                           rotate_left
                           ·intro w'
                            go_simp
                            with_reducible rfl
                           rotate_left
                           ·simp only [Act.put, List.setIfInBounds_toArray, List.set_cons_zero, List.set_cons_succ, i64_w, i32_w]
                            rfl
                           refine pure_ (i := 9) (N := some 156) (v := ?_) (a' := ?_) #[true, true, true, true, true, true, true, true, true, true, false, true, false, false] rfl rfl (any_of HT_.out (by kernel_rfl)) (fun _ _ _ h => h) (Or.inl ⟨by rfl, ?_⟩) ?_ ?_
                           rotate_left
                           ·intro w'
                            go_simp
                            with_reducible rfl
                           rotate_left
                           ·simp only [Act.put, List.setIfInBounds_toArray, List.set_cons_zero, List.set_cons_succ, i64_w, i32_w]
                            rfl
                           refine pure_ (i := 10) (N := some 157) (v := ?_) (a' := ?_) #[true, true, true, true, true, true, true, true, true, true, true, true, false, false] rfl rfl (any_of HT_.out (by kernel_rfl)) (fun _ _ _ h => h) (Or.inl ⟨by rfl, ?_⟩) ?_ ?_
                           rotate_left
                           ·intro w'
                            go_simp
                            with_reducible rfl
                           rotate_left
                           ·simp only [Act.put, List.setIfInBounds_toArray, List.set_cons_zero, List.set_cons_succ, i64_w, i32_w]
                            rfl
                           exact norm_ (by simp only [putAll, Act.put, List.setIfInBounds_toArray, List.set_cons_zero, List.set_cons_succ]) (hCont (gb272) _ ⟨hHeld, (by (with_reducible repeat (first | refine blk_drewN ?_ _ | refine blk_drew ?_ | refine blk_alloc ?_ _)); exact BK259.out), (by (with_reducible repeat (first | refine blk_drewN ?_ _ | refine blk_drew ?_ | refine blk_alloc ?_ _)); exact BK260.out), (by (with_reducible repeat (first | refine blk_drewN ?_ _ | refine blk_drew ?_ | refine blk_alloc ?_ _)); exact BK272.out), GW272.out, GE272.out, NB259_272.out, NB272_259.out, NB260_272.out, NB272_260.out, (by repeat (first | (with_reducible first | exact HB.out | apply below_alloc | apply pw_below_drewN | apply below_drew1 | refine below_set ?_ GE259.out | refine below_set ?_ GE260.out | refine below_set ?_ GE272.out) | exact HB.out))⟩)
                         ·skip
                          refine box_step ?hg (N := 9) ?hd (cs := #[.int .u64 0, .int .u64 0]) (t := 34) ?hr ?_; (case hd => rfl); (case hg => rfl); (case hr => first | (go_simp; done) | (go_simp; rfl))
                          intro gb272 hg w90 hbox hb
                          have n0_ := Aside0.mk (blk_below (g := gb259) (o := .cells #[.int .u64 a0_0, .int .u64 a0_1, .int .u64 x260002_61, .int .u64 x260003_61, .int .i64 x260004_32, .int .i64 x260005_32] 36 (0, 0)) (by (with_reducible repeat (first | refine blk_drewN ?_ _ | refine blk_drew ?_ | refine blk_alloc ?_ _)); exact BK259.out) hb)
                          have n1_ := Aside0.mk (blk_below (g := gb260) (o := .cells #[.int .u64 0, .int .u64 0, .int .u64 0, .int .u64 0, .int .i64 0, .int .i64 0] 36 (0, 0)) (by (with_reducible repeat (first | refine blk_drewN ?_ _ | refine blk_drew ?_ | refine blk_alloc ?_ _)); exact BK260.out) hb)
                          have n2_ := Aside0.mk (below_step (by repeat (first | (with_reducible first | exact HB.out | apply below_alloc | apply pw_below_drewN | apply below_drew1 | refine below_set ?_ GE259.out | refine below_set ?_ GE260.out) | exact HB.out)) hb)
                          have n3_ := Aside0.mk (hbox)
                          have n4_ := Aside0.mk ((by rw [hg]; exact (below_size (by repeat (first | (with_reducible first | exact HB.out | apply below_alloc | apply pw_below_drewN | apply below_drew1 | refine below_set ?_ GE259.out | refine below_set ?_ GE260.out) | exact HB.out))) : w.heap.size ≤ gb272))
                          have n5_ := Aside0.mk ((by rw [hg]; exact (below_size (by repeat (first | (with_reducible first | exact HB.out | apply below_alloc | apply pw_below_drewN | apply below_drew1 | refine below_set ?_ GE259.out | refine below_set ?_ GE260.out) | exact HB.out))) : w.heap.size ≤ gb272))
                          have n6_ := Aside0.mk ((by rw [hg]; exact Nat.ne_of_lt (blk_lt (g := gb259) (o := .cells #[.int .u64 a0_0, .int .u64 a0_1, .int .u64 x260002_61, .int .u64 x260003_61, .int .i64 x260004_32, .int .i64 x260005_32] 36 (0, 0)) (by (with_reducible repeat (first | refine blk_drewN ?_ _ | refine blk_drew ?_ | refine blk_alloc ?_ _)); exact BK259.out)) : gb259 ≠ gb272))
                          have n7_ := Aside0.mk ((by rw [hg]; exact Nat.ne_of_gt (blk_lt (g := gb259) (o := .cells #[.int .u64 a0_0, .int .u64 a0_1, .int .u64 x260002_61, .int .u64 x260003_61, .int .i64 x260004_32, .int .i64 x260005_32] 36 (0, 0)) (by (with_reducible repeat (first | refine blk_drewN ?_ _ | refine blk_drew ?_ | refine blk_alloc ?_ _)); exact BK259.out)) : gb272 ≠ gb259))
                          have n8_ := Aside0.mk ((by rw [hg]; exact Nat.ne_of_lt (blk_lt (g := gb260) (o := .cells #[.int .u64 0, .int .u64 0, .int .u64 0, .int .u64 0, .int .i64 0, .int .i64 0] 36 (0, 0)) (by (with_reducible repeat (first | refine blk_drewN ?_ _ | refine blk_drew ?_ | refine blk_alloc ?_ _)); exact BK260.out)) : gb260 ≠ gb272))
                          have n9_ := Aside0.mk ((by rw [hg]; exact Nat.ne_of_gt (blk_lt (g := gb260) (o := .cells #[.int .u64 0, .int .u64 0, .int .u64 0, .int .u64 0, .int .i64 0, .int .i64 0] 36 (0, 0)) (by (with_reducible repeat (first | refine blk_drewN ?_ _ | refine blk_drew ?_ | refine blk_alloc ?_ _)); exact BK260.out)) : gb272 ≠ gb260))
                          clear BK259
                          clear BK260
                          clear HB
                          have BK259 := n0_
                          have BK260 := n1_
                          have HB := n2_
                          have BK272 := n3_
                          have GW272 := n4_
                          have GE272 := n5_
                          have NB259_272 := n6_
                          have NB272_259 := n7_
                          have NB260_272 := n8_
                          have NB272_260 := n9_
                          clear n0_ n1_ n2_ n3_ n4_ n5_ n6_ n7_ n8_ n9_
                          clear hb hbox hg
                          refine hK.out _ _ ⟨(blk_cell BK259.out 0).trans rfl, (blk_cell BK259.out 1).trans rfl, (blk_cell BK259.out 2).trans rfl, (blk_cell BK259.out 3).trans rfl, (blk_cell BK259.out 4).trans rfl, (blk_cell BK259.out 5).trans rfl⟩ (fun hHeld => ?_)
                          clear hK K
                          refine norm_ (a' := ?_) ?_ ?_
                          rotate_left
                          ·show Act.put _ (some 9) _ = _
                           simp only [Act.put, List.setIfInBounds_toArray, List.set_cons_zero, List.set_cons_succ, i64_w, i32_w]
                           rfl
                          refine one_ (i := 6) (N := some 154) #[true, true, true, true, true, true, true, false, false, false, false, true, false, false] rfl rfl (one_of HT_.out (by kernel_rfl)) (by decide) (fun K hK => ?_)
                          refine goes_ Try.func86 (by kernel_rfl) rfl #[.int .u64 x260002_61, .int .u64 x260003_61] (by rfl) rfl rfl (by (try simp only [List.map_toArray, List.map_cons, List.map_nil]); first | done | rfl | (simp only [List.length_drop, List.length_take]; rfl)) ?_
                          with_reducible refine (halberdref06_Range.calls kj74 x260002_61 x260003_61 t267 t268 _ A86.out).mono ?_
                          rintro e w91 ⟨rfl, hb⟩
                          refine ⟨_, rfl, ?_⟩
                          have n0_ := Aside0.mk (blk_below (g := gb259) (o := .cells #[.int .u64 a0_0, .int .u64 a0_1, .int .u64 x260002_61, .int .u64 x260003_61, .int .i64 x260004_32, .int .i64 x260005_32] 36 (0, 0)) (by (with_reducible repeat (first | refine blk_drewN ?_ _ | refine blk_drew ?_ | refine blk_alloc ?_ _)); exact BK259.out) hb)
                          have n1_ := Aside0.mk (blk_below (g := gb260) (o := .cells #[.int .u64 0, .int .u64 0, .int .u64 0, .int .u64 0, .int .i64 0, .int .i64 0] 36 (0, 0)) (by (with_reducible repeat (first | refine blk_drewN ?_ _ | refine blk_drew ?_ | refine blk_alloc ?_ _)); exact BK260.out) hb)
                          have n2_ := Aside0.mk (blk_below (g := gb272) (o := .cells #[.int .u64 0, .int .u64 0] 34 (0, 0)) (by (with_reducible repeat (first | refine blk_drewN ?_ _ | refine blk_drew ?_ | refine blk_alloc ?_ _)); exact BK272.out) hb)
                          have n3_ := Aside0.mk (below_step (by repeat (first | (with_reducible first | exact HB.out | apply below_alloc | apply pw_below_drewN | apply below_drew1 | refine below_set ?_ GE259.out | refine below_set ?_ GE260.out | refine below_set ?_ GE272.out) | exact HB.out)) hb)
                          clear BK259
                          clear BK260
                          clear BK272
                          clear HB
                          have BK259 := n0_
                          have BK260 := n1_
                          have BK272 := n2_
                          have HB := n3_
                          clear n0_ n1_ n2_ n3_
                          (try clear hb)
                          (try clear hb2)
                          (try clear hk)
                          (try clear hi)
                          refine hK.out _ _ ⟨(blk_cell BK259.out 0).trans rfl, (blk_cell BK259.out 1).trans rfl, (blk_cell BK259.out 2).trans rfl, (blk_cell BK259.out 3).trans rfl, (blk_cell BK259.out 4).trans rfl, (blk_cell BK259.out 5).trans rfl⟩ (fun hHeld => ?_)
                          clear hK K
                          refine norm_ (a' := ?_) ?_ ?_
                          rotate_left
                          ·show Act.put _ (some 154) _ = _
                           simp only [Act.put, List.setIfInBounds_toArray, List.set_cons_zero, List.set_cons_succ, i64_w, i32_w]
                           rfl
                          refine one_ (i := 7) (N := some 155) #[true, true, true, true, true, true, true, true, false, false, false, true, false, false] rfl rfl (one_of HT_.out (by kernel_rfl)) (by decide) (fun K hK => ?_)
                          refine goes_ Try.func85 (by kernel_rfl) rfl #[.agg #[.int .u64 a0_0, .int .u64 a0_1], .agg #[.int .u64 t267, .int .u64 t268]] (by rfl) rfl rfl (by (try simp only [List.map_toArray, List.map_cons, List.map_nil]); first | done | rfl | (simp only [List.length_drop, List.length_take]; rfl)) ?_
                          with_reducible refine (halberdref06_Meet.calls kj74 a0_0 a0_1 t267 t268 t269 t270 true _ A87.out).mono ?_
                          rintro e w92 ⟨rfl, hb⟩
                          refine ⟨_, rfl, ?_⟩
                          have n0_ := Aside0.mk (blk_below (g := gb259) (o := .cells #[.int .u64 a0_0, .int .u64 a0_1, .int .u64 x260002_61, .int .u64 x260003_61, .int .i64 x260004_32, .int .i64 x260005_32] 36 (0, 0)) (by (with_reducible repeat (first | refine blk_drewN ?_ _ | refine blk_drew ?_ | refine blk_alloc ?_ _)); exact BK259.out) hb)
                          have n1_ := Aside0.mk (blk_below (g := gb260) (o := .cells #[.int .u64 0, .int .u64 0, .int .u64 0, .int .u64 0, .int .i64 0, .int .i64 0] 36 (0, 0)) (by (with_reducible repeat (first | refine blk_drewN ?_ _ | refine blk_drew ?_ | refine blk_alloc ?_ _)); exact BK260.out) hb)
                          have n2_ := Aside0.mk (blk_below (g := gb272) (o := .cells #[.int .u64 0, .int .u64 0] 34 (0, 0)) (by (with_reducible repeat (first | refine blk_drewN ?_ _ | refine blk_drew ?_ | refine blk_alloc ?_ _)); exact BK272.out) hb)
                          have n3_ := Aside0.mk (below_step (by repeat (first | (with_reducible first | exact HB.out | apply below_alloc | apply pw_below_drewN | apply below_drew1 | refine below_set ?_ GE259.out | refine below_set ?_ GE260.out | refine below_set ?_ GE272.out) | exact HB.out)) hb)
                          clear BK259
                          clear BK260
                          clear BK272
                          clear HB
                          have BK259 := n0_
                          have BK260 := n1_
                          have BK272 := n2_
                          have HB := n3_
                          clear n0_ n1_ n2_ n3_
                          (try clear hb)
                          (try clear hb2)
                          (try clear hk)
                          (try clear hi)
                          refine hK.out _ _ ⟨(blk_cell BK259.out 0).trans rfl, (blk_cell BK259.out 1).trans rfl, (blk_cell BK259.out 2).trans rfl, (blk_cell BK259.out 3).trans rfl, (blk_cell BK259.out 4).trans rfl, (blk_cell BK259.out 5).trans rfl⟩ (fun hHeld => ?_)
                          clear hK K
                          refine norm_ (a' := ?_) ?_ ?_
                          rotate_left
                          ·show Act.put _ (some 155) _ = _
                           simp only [Act.put, List.setIfInBounds_toArray, List.set_cons_zero, List.set_cons_succ, i64_w, i32_w]
                           rfl
                          refine pure_ (i := 8) (N := some 147) (v := ?_) (a' := ?_) #[true, true, true, true, true, true, true, true, true, false, false, true, false, false] rfl rfl (any_of HT_.out (by kernel_rfl)) (fun _ _ _ h => h) (Or.inl ⟨by rfl, ?_⟩) ?_ ?_
                          rotate_left
                          ·intro w'
                           go_simp
                           with_reducible rfl
                          rotate_left
                          ·simp only [Act.put, List.setIfInBounds_toArray, List.set_cons_zero, List.set_cons_succ, i64_w, i32_w]
                           rfl
                          refine pure_ (i := 9) (N := some 156) (v := ?_) (a' := ?_) #[true, true, true, true, true, true, true, true, true, true, false, true, false, false] rfl rfl (any_of HT_.out (by kernel_rfl)) (fun _ _ _ h => h) (Or.inl ⟨by rfl, ?_⟩) ?_ ?_
                          rotate_left
                          ·intro w'
                           go_simp
                           with_reducible rfl
                          rotate_left
                          ·simp only [Act.put, List.setIfInBounds_toArray, List.set_cons_zero, List.set_cons_succ, i64_w, i32_w]
                           rfl
                          refine pure_ (i := 10) (N := some 157) (v := ?_) (a' := ?_) #[true, true, true, true, true, true, true, true, true, true, true, true, false, false] rfl rfl (any_of HT_.out (by kernel_rfl)) (fun _ _ _ h => h) (Or.inl ⟨by rfl, ?_⟩) ?_ ?_
                          rotate_left
                          ·intro w'
                           go_simp
                           with_reducible rfl
                          rotate_left
                          ·simp only [Act.put, List.setIfInBounds_toArray, List.set_cons_zero, List.set_cons_succ, i64_w, i32_w]
                           rfl
                          exact norm_ (by simp only [putAll, Act.put, List.setIfInBounds_toArray, List.set_cons_zero, List.set_cons_succ]) (hCont (gb272) _ ⟨hHeld, (by (with_reducible repeat (first | refine blk_drewN ?_ _ | refine blk_drew ?_ | refine blk_alloc ?_ _)); exact BK259.out), (by (with_reducible repeat (first | refine blk_drewN ?_ _ | refine blk_drew ?_ | refine blk_alloc ?_ _)); exact BK260.out), (by (with_reducible repeat (first | refine blk_drewN ?_ _ | refine blk_drew ?_ | refine blk_alloc ?_ _)); exact BK272.out), GW272.out, GE272.out, NB259_272.out, NB272_259.out, NB260_272.out, NB272_260.out, (by repeat (first | (with_reducible first | exact HB.out | apply below_alloc | apply pw_below_drewN | apply below_drew1 | refine below_set ?_ GE259.out | refine below_set ?_ GE260.out | refine below_set ?_ GE272.out) | exact HB.out))⟩)
                        rintro gb272 w93 ⟨hS_, h0_, h1_, h2_, h3_, h4_, h5_, h6_, h7_, h8_, h9_⟩
                        have n0_ : Aside0 (w93.heap[gb259]? = some (.cells #[.int .u64 a0_0, .int .u64 a0_1, .int .u64 x260002_61, .int .u64 x260003_61, .int .i64 x260004_32, .int .i64 x260005_32] 36 (0, 0))) := ⟨h0_⟩
                        have n1_ : Aside0 (w93.heap[gb260]? = some (.cells #[.int .u64 0, .int .u64 0, .int .u64 0, .int .u64 0, .int .i64 0, .int .i64 0] 36 (0, 0))) := ⟨h1_⟩
                        have n2_ : Aside0 (w93.heap[gb272]? = some (.cells #[.int .u64 0, .int .u64 0] 34 (0, 0))) := ⟨h2_⟩
                        have n3_ : Aside0 (w.heap.size ≤ gb272) := ⟨h3_⟩
                        have n4_ : Aside0 (w.heap.size ≤ gb272) := ⟨h4_⟩
                        have n5_ : Aside0 (gb259 ≠ gb272) := ⟨h5_⟩
                        have n6_ : Aside0 (gb272 ≠ gb259) := ⟨h6_⟩
                        have n7_ : Aside0 (gb260 ≠ gb272) := ⟨h7_⟩
                        have n8_ : Aside0 (gb272 ≠ gb260) := ⟨h8_⟩
                        have n9_ : Aside0 (Below w.heap.size w w93) := ⟨h9_⟩
                        clear BK259
                        clear BK260
                        clear HB
                        clear h0_ h1_ h2_ h3_ h4_ h5_ h6_ h7_ h8_ h9_
                        have BK259 := n0_
                        have BK260 := n1_
                        have BK272 := n2_
                        have GW272 := n3_
                        have GE272 := n4_
                        have NB259_272 := n5_
                        have NB272_259 := n6_
                        have NB260_272 := n7_
                        have NB272_260 := n8_
                        have HB := n9_
                        clear n0_ n1_ n2_ n3_ n4_ n5_ n6_ n7_ n8_ n9_
                        have hHeld : w93.cell? ⟨gb259, 0, none⟩ = some (.int .u64 a0_0) ∧ w93.cell? ⟨gb259, 1, none⟩ = some (.int .u64 a0_1) ∧ w93.cell? ⟨gb259, 2, none⟩ = some (.int .u64 x260002_61) ∧ w93.cell? ⟨gb259, 3, none⟩ = some (.int .u64 x260003_61) ∧ w93.cell? ⟨gb259, 4, none⟩ = some (.int .i64 x260004_32) ∧ w93.cell? ⟨gb259, 5, none⟩ = some (.int .i64 x260005_32) := hS_
                        refine norm_ (a' := ?_) ?_ ?_
                        rotate_left
                        ·simp only [putAll, Act.put, List.setIfInBounds_toArray, List.set_cons_zero, List.set_cons_succ]
                         rfl
                        refine one_ (i := 12) (N := none) #[true, true, true, true, true, true, true, true, true, true, true, true, true, false] rfl rfl (one_of HT_.out (by kernel_rfl)) (by decide) (fun K hK => ?_)
                        have hs94 : w93.cell? ⟨gb272, 0, none⟩ = some (.int .u64 0) := (blk_cell BK272.out 0).trans rfl
                        have hfs94 := blk_frozen BK272.out 0
                        have hns94_0 := NB259_272.out
                        have hns94_1 := NB260_272.out
                        have hms94_0 := NB272_259.out
                        have hms94_1 := NB272_260.out
                        have hs95 : w93.cell? ⟨gb272, 1, none⟩ = some (.int .u64 0) := (blk_cell BK272.out 1).trans rfl
                        have hfs95 := blk_frozen BK272.out 1
                        have hns95_0 := NB259_272.out
                        have hns95_1 := NB260_272.out
                        have hms95_0 := NB272_259.out
                        have hms95_1 := NB272_260.out
                        refine skip_ (w1 := ?_) (by rfl) rfl ?_ ?_
                        rotate_left
                        ·go_simp
                         rfl
                        refine hK.out _ _ ⟨((cell_far (p := ⟨gb272, _, none⟩) NB259_272.out _).trans (((cell_far (p := ⟨gb272, _, none⟩) NB259_272.out _).trans (hHeld.1)))), ((cell_far (p := ⟨gb272, _, none⟩) NB259_272.out _).trans (((cell_far (p := ⟨gb272, _, none⟩) NB259_272.out _).trans (hHeld.2.1)))), ((cell_far (p := ⟨gb272, _, none⟩) NB259_272.out _).trans (((cell_far (p := ⟨gb272, _, none⟩) NB259_272.out _).trans (hHeld.2.2.1)))), ((cell_far (p := ⟨gb272, _, none⟩) NB259_272.out _).trans (((cell_far (p := ⟨gb272, _, none⟩) NB259_272.out _).trans (hHeld.2.2.2.1)))), ((cell_far (p := ⟨gb272, _, none⟩) NB259_272.out _).trans (((cell_far (p := ⟨gb272, _, none⟩) NB259_272.out _).trans (hHeld.2.2.2.2.1)))), ((cell_far (p := ⟨gb272, _, none⟩) NB259_272.out _).trans (((cell_far (p := ⟨gb272, _, none⟩) NB259_272.out _).trans (hHeld.2.2.2.2.2))))⟩ (fun hHeld => ?_)
                        clear hK K
                        refine pure_ (i := 13) (N := some 10) (v := ?_) (a' := ?_) #[true, true, true, true, true, true, true, true, true, true, true, true, true, true] rfl rfl (any_of HT_.out (by kernel_rfl)) (fun _ _ _ h => h) (Or.inl ⟨by rfl, ?_⟩) ?_ ?_
                        rotate_left
                        ·intro w'
                         go_simp
                         with_reducible rfl
                        rotate_left
                        ·simp only [Act.put, List.setIfInBounds_toArray, List.set_cons_zero, List.set_cons_succ, i64_w, i32_w]
                         rfl
                        refine done_ (done_of HT_.out (by kernel_rfl)) ?_
                        have hnb96 := NB272_259.out
                        have hnc96 := NB259_272.out
                        have hnb97 := NB272_260.out
                        have hnc97 := NB260_272.out
                        have hcz98_0 : w93.cell? ⟨gb272, 0, none⟩ = some (.int .u64 0) := (blk_cell BK272.out 0).trans rfl
                        have hcz98_1 : w93.cell? ⟨gb272, 1, none⟩ = some (.int .u64 0) := (blk_cell BK272.out 1).trans rfl
                        have hfz98_0 := blk_frozen BK272.out 0
                        have hfz98_1 := blk_frozen BK272.out 1
                        have hnb99 := NB259_260.out
                        have hnc99 := NB260_259.out
                        have hcz100_0 : w93.cell? ⟨gb259, 0, none⟩ = some (.int .u64 a0_0) := (blk_cell BK259.out 0).trans rfl
                        have hcz100_1 : w93.cell? ⟨gb259, 1, none⟩ = some (.int .u64 a0_1) := (blk_cell BK259.out 1).trans rfl
                        have hcz100_2 : w93.cell? ⟨gb259, 2, none⟩ = some (.int .u64 x260002_61) := (blk_cell BK259.out 2).trans rfl
                        have hcz100_3 : w93.cell? ⟨gb259, 3, none⟩ = some (.int .u64 x260003_61) := (blk_cell BK259.out 3).trans rfl
                        have hcz100_4 : w93.cell? ⟨gb259, 4, none⟩ = some (.int .i64 x260004_32) := (blk_cell BK259.out 4).trans rfl
                        have hcz100_5 : w93.cell? ⟨gb259, 5, none⟩ = some (.int .i64 x260005_32) := (blk_cell BK259.out 5).trans rfl
                        have hfz100_0 := blk_frozen BK259.out 0
                        have hfz100_1 := blk_frozen BK259.out 1
                        have hfz100_2 := blk_frozen BK259.out 2
                        have hfz100_3 := blk_frozen BK259.out 3
                        have hfz100_4 := blk_frozen BK259.out 4
                        have hfz100_5 := blk_frozen BK259.out 5
                        have hcz101_0 : w93.cell? ⟨gb260, 0, none⟩ = some (.int .u64 0) := (blk_cell BK260.out 0).trans rfl
                        have hcz101_1 : w93.cell? ⟨gb260, 1, none⟩ = some (.int .u64 0) := (blk_cell BK260.out 1).trans rfl
                        have hcz101_2 : w93.cell? ⟨gb260, 2, none⟩ = some (.int .u64 0) := (blk_cell BK260.out 2).trans rfl
                        have hcz101_3 : w93.cell? ⟨gb260, 3, none⟩ = some (.int .u64 0) := (blk_cell BK260.out 3).trans rfl
                        have hcz101_4 : w93.cell? ⟨gb260, 4, none⟩ = some (.int .i64 0) := (blk_cell BK260.out 4).trans rfl
                        have hcz101_5 : w93.cell? ⟨gb260, 5, none⟩ = some (.int .i64 0) := (blk_cell BK260.out 5).trans rfl
                        have hfz101_0 := blk_frozen BK260.out 0
                        have hfz101_1 := blk_frozen BK260.out 1
                        have hfz101_2 := blk_frozen BK260.out 2
                        have hfz101_3 := blk_frozen BK260.out 3
                        have hfz101_4 := blk_frozen BK260.out 4
                        have hfz101_5 := blk_frozen BK260.out 5
                        try go_wp2
                        refine bodyPost_ret (results_ct rfl _ _ gb260 36 #[.int .u64 t269, .int .u64 t270, .int .u64 x260002_61, .int .u64 x260003_61, .int .i64 x260004_32, .int .i64 x260005_32] (0, 0) _ rfl (by (with_reducible repeat (first | refine blk_drewN ?_ _ | refine blk_drew ?_ | refine blk_alloc ?_ _)); refine blk_put (cs := #[.int .u64 t269, .int .u64 t270, .int .u64 x260002_61, .int .u64 x260003_61, .int .i64 x260004_32, .int .i64 0]) ?_ 5 _ rfl; refine blk_put (cs := #[.int .u64 t269, .int .u64 t270, .int .u64 x260002_61, .int .u64 x260003_61, .int .i64 0, .int .i64 0]) ?_ 4 _ rfl; refine blk_put (cs := #[.int .u64 t269, .int .u64 t270, .int .u64 x260002_61, .int .u64 0, .int .i64 0, .int .i64 0]) ?_ 3 _ rfl; refine blk_put (cs := #[.int .u64 t269, .int .u64 t270, .int .u64 0, .int .u64 0, .int .i64 0, .int .i64 0]) ?_ 2 _ rfl; refine blk_put (cs := #[.int .u64 t269, .int .u64 0, .int .u64 0, .int .u64 0, .int .i64 0, .int .i64 0]) ?_ 1 _ rfl; refine blk_put (cs := #[.int .u64 0, .int .u64 0, .int .u64 0, .int .u64 0, .int .i64 0, .int .i64 0]) ?_ 0 _ rfl; refine blk_far ?_ NB260_259.out _; refine blk_far ?_ NB260_259.out _; refine blk_far ?_ NB260_272.out _; refine blk_far ?_ NB260_272.out _; (with_reducible repeat (first | refine blk_drewN ?_ _ | refine blk_drew ?_ | refine blk_alloc ?_ _)); exact BK260.out) Try.underlying36 rfl (by kernel_rfl)) rfl ?_
                        exact ⟨by first | rfl | (simp [errW_none, errW_some] <;> rfl) | (simp [*, errW_none, errW_some] <;> rfl), by repeat (first | (with_reducible first | exact HB.out | apply below_alloc | apply pw_below_drewN | apply below_drew1 | refine below_set ?_ GE259.out | refine below_set ?_ GE260.out | refine below_set ?_ GE272.out) | exact HB.out)⟩
                       ·replace c88 := Bool.eq_false_iff.mpr c88
                        subst c88
                        have H1 : ((halberdref07_All.f).bind fun bt273 => (some (bt273.1, bt273.2.1, bt273.2.2.1, bt273.2.2.2.1, bt273.2.2.2.2.1, bt273.2.2.2.2.2, false))) = some (r1, r2, r3, r4, r5, r6, r7) := by rw [if_neg (show ¬ (false = true) by decide)] at H; exact H
                        clear H
                        have H := H1
                        clear H1
                        replace H := Option.bind_eq_some_iff.mp H
                        obtain ⟨⟨t273, t274, t275, t276, t277, t278⟩, A1020, H⟩ := H
                        replace H : (some (t273, t274, t275, t276, t277, t278, false)) = some (r1, r2, r3, r4, r5, r6, r7) := H
                        have A102 := Aside0.mk A1020
                        clear A1020
                        simp only [Option.some.injEq, Prod.mk.injEq] at H
                        obtain ⟨rfl, rfl, rfl, rfl, rfl, rfl, rfl⟩ := H
                        try go_wp2
                        have n0_ := Aside0.mk (blk_drew BK259.out)
                        have n1_ := Aside0.mk (blk_drew BK260.out)
                        have n2_ := Aside0.mk (below_drew1 HB.out)
                        clear BK259
                        clear BK260
                        clear HB
                        have BK259 := n0_
                        have BK260 := n1_
                        have HB := n2_
                        clear n0_ n1_ n2_
                        refine start_ (n := 14) (S := fun w' => w'.cell? ⟨gb259, 0, none⟩ = some (.int .u64 a0_0) ∧ w'.cell? ⟨gb259, 1, none⟩ = some (.int .u64 a0_1) ∧ w'.cell? ⟨gb259, 2, none⟩ = some (.int .u64 x260002_61) ∧ w'.cell? ⟨gb259, 3, none⟩ = some (.int .u64 x260003_61) ∧ w'.cell? ⟨gb259, 4, none⟩ = some (.int .i64 x260004_32) ∧ w'.cell? ⟨gb259, 5, none⟩ = some (.int .i64 x260005_32)) (ds := []) #[false, false, false, false, false, false, false, false, false, false, false, false, false, false] (by kernel_rfl) rfl rfl ⟨(blk_cell BK259.out 0).trans rfl, (blk_cell BK259.out 1).trans rfl, (blk_cell BK259.out 2).trans rfl, (blk_cell BK259.out 3).trans rfl, (blk_cell BK259.out 4).trans rfl, (blk_cell BK259.out 5).trans rfl⟩ (fun hHeld => ?_); refine with_tabW halberdref07_Round.tab28 halberdref07_Round.bits28 (fun HT_ HW_ => ?_)
                        generalize wc.drew = w103 at BK259 BK260 HB hHeld ⊢
                        refine pure_ (i := 0) (N := some 148) (v := ?_) (a' := ?_) #[true, false, false, false, false, false, false, false, false, false, false, false, false, false] rfl rfl (any_of HT_.out (by kernel_rfl)) (fun _ _ _ h => h) (Or.inl ⟨by rfl, ?_⟩) ?_ ?_
                        rotate_left
                        ·intro w'
                         go_simp
                         with_reducible rfl
                        rotate_left
                        ·simp only [Act.put, List.setIfInBounds_toArray, List.set_cons_zero, List.set_cons_succ, i64_w, i32_w]
                         rfl
                        refine pure_ (i := 2) (N := some 150) (v := ?_) (a' := ?_) #[true, false, true, false, false, false, false, false, false, false, false, false, false, false] rfl rfl (any_of HT_.out (by kernel_rfl)) (fun _ _ _ h => h) (Or.inl ⟨by rfl, ?_⟩) ?_ ?_
                        rotate_left
                        ·intro w'
                         go_simp
                         with_reducible rfl
                        rotate_left
                        ·simp only [Act.put, List.setIfInBounds_toArray, List.set_cons_zero, List.set_cons_succ, i64_w, i32_w]
                         rfl
                        refine pure_ (i := 4) (N := some 152) (v := ?_) (a' := ?_) #[true, false, true, false, true, false, false, false, false, false, false, false, false, false] rfl rfl (any_of HT_.out (by kernel_rfl)) (fun _ _ _ h => h) (Or.inl ⟨by rfl, ?_⟩) ?_ ?_
                        rotate_left
                        ·intro w'
                         go_simp
                         with_reducible rfl
                        rotate_left
                        ·simp only [Act.put, List.setIfInBounds_toArray, List.set_cons_zero, List.set_cons_succ, i64_w, i32_w]
                         rfl
                        refine take_ (i := 1) (N := some 149) (v := ?_) (a' := ?_) #[true, true, true, false, true, false, false, false, false, false, false, false, false, false] rfl rfl (take_ofW HT_.out HW_.out (by kernel_rfl)) (fun _ _ _ h => h) (Or.inl ⟨by rfl, ?_⟩) hHeld ?_ ?_
                        rotate_left
                        ·rintro w' ⟨s0, s1, s2, s3, s4, s5⟩
                         go_simp
                         with_reducible rfl
                        rotate_left
                        ·simp only [Act.put, List.setIfInBounds_toArray, List.set_cons_zero, List.set_cons_succ, i64_w, i32_w]
                         rfl
                        refine take_ (i := 3) (N := some 151) (v := ?_) (a' := ?_) #[true, true, true, true, true, false, false, false, false, false, false, false, false, false] rfl rfl (take_ofW HT_.out HW_.out (by kernel_rfl)) (fun _ _ _ h => h) (Or.inl ⟨by rfl, ?_⟩) hHeld ?_ ?_
                        rotate_left
                        ·rintro w' ⟨s0, s1, s2, s3, s4, s5⟩
                         go_simp
                         with_reducible rfl
                        rotate_left
                        ·simp only [Act.put, List.setIfInBounds_toArray, List.set_cons_zero, List.set_cons_succ, i64_w, i32_w]
                         rfl
                        refine take_ (i := 5) (N := some 153) (v := ?_) (a' := ?_) #[true, true, true, true, true, true, false, false, false, false, false, false, false, false] rfl rfl (take_ofW HT_.out HW_.out (by kernel_rfl)) (fun _ _ _ h => h) (Or.inl ⟨by rfl, ?_⟩) hHeld ?_ ?_
                        rotate_left
                        ·rintro w' ⟨s0, s1, s2, s3, s4, s5⟩
                         go_simp
                         with_reducible rfl
                        rotate_left
                        ·simp only [Act.put, List.setIfInBounds_toArray, List.set_cons_zero, List.set_cons_succ, i64_w, i32_w]
                         rfl
                        refine join_ (σ := Nat) 2 #[true, true, true, true, true, true, true, true, true, true, true, true, false, false] (fun s_ => [(154, .agg #[.int .u64 t267, .int .u64 t268]), (155, .tuple #[.agg #[.int .u64 t269, .int .u64 t270], .bool false]), (9, .pointer (some ⟨s_, 0, none⟩)), (147, .tuple #[.agg #[.int .u64 t269, .int .u64 t270], .bool false]), (156, .agg #[.int .u64 t269, .int .u64 t270]), (157, .bool false)]) (fun s_ w' => (w'.cell? ⟨gb259, 0, none⟩ = some (.int .u64 a0_0) ∧ w'.cell? ⟨gb259, 1, none⟩ = some (.int .u64 a0_1) ∧ w'.cell? ⟨gb259, 2, none⟩ = some (.int .u64 x260002_61) ∧ w'.cell? ⟨gb259, 3, none⟩ = some (.int .u64 x260003_61) ∧ w'.cell? ⟨gb259, 4, none⟩ = some (.int .i64 x260004_32) ∧ w'.cell? ⟨gb259, 5, none⟩ = some (.int .i64 x260005_32)) ∧ (w'.heap[gb259]? = some (.cells #[.int .u64 a0_0, .int .u64 a0_1, .int .u64 x260002_61, .int .u64 x260003_61, .int .i64 x260004_32, .int .i64 x260005_32] 36 (0, 0))) ∧ (w'.heap[gb260]? = some (.cells #[.int .u64 0, .int .u64 0, .int .u64 0, .int .u64 0, .int .i64 0, .int .i64 0] 36 (0, 0))) ∧ (w'.heap[s_]? = some (.cells #[.int .u64 0, .int .u64 0] 34 (0, 0))) ∧ (w.heap.size ≤ s_) ∧ (w.heap.size ≤ s_) ∧ (gb259 ≠ s_) ∧ (s_ ≠ gb259) ∧ (gb260 ≠ s_) ∧ (s_ ≠ gb260) ∧ (Below w.heap.size w w')) ?_ ?_
                        rotate_left
                        ·intro hCont
                         refine two_ (i := 6) (j := 11) (Ni := some 154) (Nj := some 9) #[true, true, true, true, true, true, true, false, false, false, false, false, false, false] #[true, true, true, true, true, true, false, false, false, false, false, true, false, false] rfl rfl rfl rfl (two_of HT_.out (by kernel_rfl)) (by decide) (by decide) (fun K hK => ?_) (fun K hK => ?_)
                         ·skip
                          refine goes_ Try.func86 (by kernel_rfl) rfl #[.int .u64 x260002_61, .int .u64 x260003_61] (by rfl) rfl rfl (by (try simp only [List.map_toArray, List.map_cons, List.map_nil]); first | done | rfl | (simp only [List.length_drop, List.length_take]; rfl)) ?_
                          with_reducible refine (halberdref06_Range.calls kj74 x260002_61 x260003_61 t267 t268 _ A86.out).mono ?_
                          rintro e w104 ⟨rfl, hb⟩
                          refine ⟨_, rfl, ?_⟩
                          have n0_ := Aside0.mk (blk_below (g := gb259) (o := .cells #[.int .u64 a0_0, .int .u64 a0_1, .int .u64 x260002_61, .int .u64 x260003_61, .int .i64 x260004_32, .int .i64 x260005_32] 36 (0, 0)) (by (with_reducible repeat (first | refine blk_drewN ?_ _ | refine blk_drew ?_ | refine blk_alloc ?_ _)); exact BK259.out) hb)
                          have n1_ := Aside0.mk (blk_below (g := gb260) (o := .cells #[.int .u64 0, .int .u64 0, .int .u64 0, .int .u64 0, .int .i64 0, .int .i64 0] 36 (0, 0)) (by (with_reducible repeat (first | refine blk_drewN ?_ _ | refine blk_drew ?_ | refine blk_alloc ?_ _)); exact BK260.out) hb)
                          have n2_ := Aside0.mk (below_step (by repeat (first | (with_reducible first | exact HB.out | apply below_alloc | apply pw_below_drewN | apply below_drew1 | refine below_set ?_ GE259.out | refine below_set ?_ GE260.out) | exact HB.out)) hb)
                          clear BK259
                          clear BK260
                          clear HB
                          have BK259 := n0_
                          have BK260 := n1_
                          have HB := n2_
                          clear n0_ n1_ n2_
                          (try clear hb)
                          (try clear hb2)
                          (try clear hk)
                          (try clear hi)
                          refine hK.out _ _ ⟨(blk_cell BK259.out 0).trans rfl, (blk_cell BK259.out 1).trans rfl, (blk_cell BK259.out 2).trans rfl, (blk_cell BK259.out 3).trans rfl, (blk_cell BK259.out 4).trans rfl, (blk_cell BK259.out 5).trans rfl⟩ (fun hHeld => ?_)
                          clear hK K
                          refine norm_ (a' := ?_) ?_ ?_
                          rotate_left
                          ·show Act.put _ (some 154) _ = _
                           simp only [Act.put, List.setIfInBounds_toArray, List.set_cons_zero, List.set_cons_succ, i64_w, i32_w]
                           rfl
                          refine two_ (i := 7) (j := 11) (Ni := some 155) (Nj := some 9) #[true, true, true, true, true, true, true, true, false, false, false, false, false, false] #[true, true, true, true, true, true, true, false, false, false, false, true, false, false] rfl rfl rfl rfl (two_of HT_.out (by kernel_rfl)) (by decide) (by decide) (fun K hK => ?_) (fun K hK => ?_)
                          ·skip
                           refine goes_ Try.func85 (by kernel_rfl) rfl #[.agg #[.int .u64 a0_0, .int .u64 a0_1], .agg #[.int .u64 t267, .int .u64 t268]] (by rfl) rfl rfl (by (try simp only [List.map_toArray, List.map_cons, List.map_nil]); first | done | rfl | (simp only [List.length_drop, List.length_take]; rfl)) ?_
                           with_reducible refine (halberdref06_Meet.calls kj74 a0_0 a0_1 t267 t268 t269 t270 false _ A87.out).mono ?_
                           rintro e w105 ⟨rfl, hb⟩
                           refine ⟨_, rfl, ?_⟩
                           have n0_ := Aside0.mk (blk_below (g := gb259) (o := .cells #[.int .u64 a0_0, .int .u64 a0_1, .int .u64 x260002_61, .int .u64 x260003_61, .int .i64 x260004_32, .int .i64 x260005_32] 36 (0, 0)) (by (with_reducible repeat (first | refine blk_drewN ?_ _ | refine blk_drew ?_ | refine blk_alloc ?_ _)); exact BK259.out) hb)
                           have n1_ := Aside0.mk (blk_below (g := gb260) (o := .cells #[.int .u64 0, .int .u64 0, .int .u64 0, .int .u64 0, .int .i64 0, .int .i64 0] 36 (0, 0)) (by (with_reducible repeat (first | refine blk_drewN ?_ _ | refine blk_drew ?_ | refine blk_alloc ?_ _)); exact BK260.out) hb)
                           have n2_ := Aside0.mk (below_step (by repeat (first | (with_reducible first | exact HB.out | apply below_alloc | apply pw_below_drewN | apply below_drew1 | refine below_set ?_ GE259.out | refine below_set ?_ GE260.out) | exact HB.out)) hb)
                           clear BK259
                           clear BK260
                           clear HB
                           have BK259 := n0_
                           have BK260 := n1_
                           have HB := n2_
                           clear n0_ n1_ n2_
                           (try clear hb)
                           (try clear hb2)
                           (try clear hk)
                           (try clear hi)
                           refine hK.out _ _ ⟨(blk_cell BK259.out 0).trans rfl, (blk_cell BK259.out 1).trans rfl, (blk_cell BK259.out 2).trans rfl, (blk_cell BK259.out 3).trans rfl, (blk_cell BK259.out 4).trans rfl, (blk_cell BK259.out 5).trans rfl⟩ (fun hHeld => ?_)
                           clear hK K
                           refine norm_ (a' := ?_) ?_ ?_
                           rotate_left
                           ·show Act.put _ (some 155) _ = _
                            simp only [Act.put, List.setIfInBounds_toArray, List.set_cons_zero, List.set_cons_succ, i64_w, i32_w]
                            rfl
                           refine pure_ (i := 8) (N := some 147) (v := ?_) (a' := ?_) #[true, true, true, true, true, true, true, true, true, false, false, false, false, false] rfl rfl (any_of HT_.out (by kernel_rfl)) (fun _ _ _ h => h) (Or.inl ⟨by rfl, ?_⟩) ?_ ?_
                           rotate_left
                           ·intro w'
                            go_simp
                            with_reducible rfl
                           rotate_left
                           ·simp only [Act.put, List.setIfInBounds_toArray, List.set_cons_zero, List.set_cons_succ, i64_w, i32_w]
                            rfl
                           refine pure_ (i := 9) (N := some 156) (v := ?_) (a' := ?_) #[true, true, true, true, true, true, true, true, true, true, false, false, false, false] rfl rfl (any_of HT_.out (by kernel_rfl)) (fun _ _ _ h => h) (Or.inl ⟨by rfl, ?_⟩) ?_ ?_
                           rotate_left
                           ·intro w'
                            go_simp
                            with_reducible rfl
                           rotate_left
                           ·simp only [Act.put, List.setIfInBounds_toArray, List.set_cons_zero, List.set_cons_succ, i64_w, i32_w]
                            rfl
                           refine pure_ (i := 10) (N := some 157) (v := ?_) (a' := ?_) #[true, true, true, true, true, true, true, true, true, true, true, false, false, false] rfl rfl (any_of HT_.out (by kernel_rfl)) (fun _ _ _ h => h) (Or.inl ⟨by rfl, ?_⟩) ?_ ?_
                           rotate_left
                           ·intro w'
                            go_simp
                            with_reducible rfl
                           rotate_left
                           ·simp only [Act.put, List.setIfInBounds_toArray, List.set_cons_zero, List.set_cons_succ, i64_w, i32_w]
                            rfl
                           refine one_ (i := 11) (N := some 9) #[true, true, true, true, true, true, true, true, true, true, true, true, false, false] rfl rfl (one_of HT_.out (by kernel_rfl)) (by decide) (fun K hK => ?_)
                           refine box_step ?hg (N := 9) ?hd (cs := #[.int .u64 0, .int .u64 0]) (t := 34) ?hr ?_; (case hd => rfl); (case hg => rfl); (case hr => first | (go_simp; done) | (go_simp; rfl))
                           intro gb272 hg w106 hbox hb
                           have n0_ := Aside0.mk (blk_below (g := gb259) (o := .cells #[.int .u64 a0_0, .int .u64 a0_1, .int .u64 x260002_61, .int .u64 x260003_61, .int .i64 x260004_32, .int .i64 x260005_32] 36 (0, 0)) (by (with_reducible repeat (first | refine blk_drewN ?_ _ | refine blk_drew ?_ | refine blk_alloc ?_ _)); exact BK259.out) hb)
                           have n1_ := Aside0.mk (blk_below (g := gb260) (o := .cells #[.int .u64 0, .int .u64 0, .int .u64 0, .int .u64 0, .int .i64 0, .int .i64 0] 36 (0, 0)) (by (with_reducible repeat (first | refine blk_drewN ?_ _ | refine blk_drew ?_ | refine blk_alloc ?_ _)); exact BK260.out) hb)
                           have n2_ := Aside0.mk (below_step (by repeat (first | (with_reducible first | exact HB.out | apply below_alloc | apply pw_below_drewN | apply below_drew1 | refine below_set ?_ GE259.out | refine below_set ?_ GE260.out) | exact HB.out)) hb)
                           have n3_ := Aside0.mk (hbox)
                           have n4_ := Aside0.mk ((by rw [hg]; exact (below_size (by repeat (first | (with_reducible first | exact HB.out | apply below_alloc | apply pw_below_drewN | apply below_drew1 | refine below_set ?_ GE259.out | refine below_set ?_ GE260.out) | exact HB.out))) : w.heap.size ≤ gb272))
                           have n5_ := Aside0.mk ((by rw [hg]; exact (below_size (by repeat (first | (with_reducible first | exact HB.out | apply below_alloc | apply pw_below_drewN | apply below_drew1 | refine below_set ?_ GE259.out | refine below_set ?_ GE260.out) | exact HB.out))) : w.heap.size ≤ gb272))
                           have n6_ := Aside0.mk ((by rw [hg]; exact Nat.ne_of_lt (blk_lt (g := gb259) (o := .cells #[.int .u64 a0_0, .int .u64 a0_1, .int .u64 x260002_61, .int .u64 x260003_61, .int .i64 x260004_32, .int .i64 x260005_32] 36 (0, 0)) (by (with_reducible repeat (first | refine blk_drewN ?_ _ | refine blk_drew ?_ | refine blk_alloc ?_ _)); exact BK259.out)) : gb259 ≠ gb272))
                           have n7_ := Aside0.mk ((by rw [hg]; exact Nat.ne_of_gt (blk_lt (g := gb259) (o := .cells #[.int .u64 a0_0, .int .u64 a0_1, .int .u64 x260002_61, .int .u64 x260003_61, .int .i64 x260004_32, .int .i64 x260005_32] 36 (0, 0)) (by (with_reducible repeat (first | refine blk_drewN ?_ _ | refine blk_drew ?_ | refine blk_alloc ?_ _)); exact BK259.out)) : gb272 ≠ gb259))
                           have n8_ := Aside0.mk ((by rw [hg]; exact Nat.ne_of_lt (blk_lt (g := gb260) (o := .cells #[.int .u64 0, .int .u64 0, .int .u64 0, .int .u64 0, .int .i64 0, .int .i64 0] 36 (0, 0)) (by (with_reducible repeat (first | refine blk_drewN ?_ _ | refine blk_drew ?_ | refine blk_alloc ?_ _)); exact BK260.out)) : gb260 ≠ gb272))
                           have n9_ := Aside0.mk ((by rw [hg]; exact Nat.ne_of_gt (blk_lt (g := gb260) (o := .cells #[.int .u64 0, .int .u64 0, .int .u64 0, .int .u64 0, .int .i64 0, .int .i64 0] 36 (0, 0)) (by (with_reducible repeat (first | refine blk_drewN ?_ _ | refine blk_drew ?_ | refine blk_alloc ?_ _)); exact BK260.out)) : gb272 ≠ gb260))
                           clear BK259
                           clear BK260
                           clear HB
                           have BK259 := n0_
                           have BK260 := n1_
                           have HB := n2_
                           have BK272 := n3_
                           have GW272 := n4_
                           have GE272 := n5_
                           have NB259_272 := n6_
                           have NB272_259 := n7_
                           have NB260_272 := n8_
                           have NB272_260 := n9_
                           clear n0_ n1_ n2_ n3_ n4_ n5_ n6_ n7_ n8_ n9_
                           clear hb hbox hg
                           refine hK.out _ _ ⟨(blk_cell BK259.out 0).trans rfl, (blk_cell BK259.out 1).trans rfl, (blk_cell BK259.out 2).trans rfl, (blk_cell BK259.out 3).trans rfl, (blk_cell BK259.out 4).trans rfl, (blk_cell BK259.out 5).trans rfl⟩ (fun hHeld => ?_)
                           clear hK K
                           refine norm_ (a' := ?_) ?_ ?_
                           rotate_left
                           ·show Act.put _ (some 9) _ = _
                            simp only [Act.put, List.setIfInBounds_toArray, List.set_cons_zero, List.set_cons_succ, i64_w, i32_w]
                            rfl
                           exact norm_ (by simp only [putAll, Act.put, List.setIfInBounds_toArray, List.set_cons_zero, List.set_cons_succ]) (hCont (gb272) _ ⟨hHeld, (by (with_reducible repeat (first | refine blk_drewN ?_ _ | refine blk_drew ?_ | refine blk_alloc ?_ _)); exact BK259.out), (by (with_reducible repeat (first | refine blk_drewN ?_ _ | refine blk_drew ?_ | refine blk_alloc ?_ _)); exact BK260.out), (by (with_reducible repeat (first | refine blk_drewN ?_ _ | refine blk_drew ?_ | refine blk_alloc ?_ _)); exact BK272.out), GW272.out, GE272.out, NB259_272.out, NB272_259.out, NB260_272.out, NB272_260.out, (by repeat (first | (with_reducible first | exact HB.out | apply below_alloc | apply pw_below_drewN | apply below_drew1 | refine below_set ?_ GE259.out | refine below_set ?_ GE260.out | refine below_set ?_ GE272.out) | exact HB.out))⟩)
                          ·skip
                           refine box_step ?hg (N := 9) ?hd (cs := #[.int .u64 0, .int .u64 0]) (t := 34) ?hr ?_; (case hd => rfl); (case hg => rfl); (case hr => first | (go_simp; done) | (go_simp; rfl))
                           intro gb272 hg w105 hbox hb
                           have n0_ := Aside0.mk (blk_below (g := gb259) (o := .cells #[.int .u64 a0_0, .int .u64 a0_1, .int .u64 x260002_61, .int .u64 x260003_61, .int .i64 x260004_32, .int .i64 x260005_32] 36 (0, 0)) (by (with_reducible repeat (first | refine blk_drewN ?_ _ | refine blk_drew ?_ | refine blk_alloc ?_ _)); exact BK259.out) hb)
                           have n1_ := Aside0.mk (blk_below (g := gb260) (o := .cells #[.int .u64 0, .int .u64 0, .int .u64 0, .int .u64 0, .int .i64 0, .int .i64 0] 36 (0, 0)) (by (with_reducible repeat (first | refine blk_drewN ?_ _ | refine blk_drew ?_ | refine blk_alloc ?_ _)); exact BK260.out) hb)
                           have n2_ := Aside0.mk (below_step (by repeat (first | (with_reducible first | exact HB.out | apply below_alloc | apply pw_below_drewN | apply below_drew1 | refine below_set ?_ GE259.out | refine below_set ?_ GE260.out) | exact HB.out)) hb)
                           have n3_ := Aside0.mk (hbox)
                           have n4_ := Aside0.mk ((by rw [hg]; exact (below_size (by repeat (first | (with_reducible first | exact HB.out | apply below_alloc | apply pw_below_drewN | apply below_drew1 | refine below_set ?_ GE259.out | refine below_set ?_ GE260.out) | exact HB.out))) : w.heap.size ≤ gb272))
                           have n5_ := Aside0.mk ((by rw [hg]; exact (below_size (by repeat (first | (with_reducible first | exact HB.out | apply below_alloc | apply pw_below_drewN | apply below_drew1 | refine below_set ?_ GE259.out | refine below_set ?_ GE260.out) | exact HB.out))) : w.heap.size ≤ gb272))
                           have n6_ := Aside0.mk ((by rw [hg]; exact Nat.ne_of_lt (blk_lt (g := gb259) (o := .cells #[.int .u64 a0_0, .int .u64 a0_1, .int .u64 x260002_61, .int .u64 x260003_61, .int .i64 x260004_32, .int .i64 x260005_32] 36 (0, 0)) (by (with_reducible repeat (first | refine blk_drewN ?_ _ | refine blk_drew ?_ | refine blk_alloc ?_ _)); exact BK259.out)) : gb259 ≠ gb272))
                           have n7_ := Aside0.mk ((by rw [hg]; exact Nat.ne_of_gt (blk_lt (g := gb259) (o := .cells #[.int .u64 a0_0, .int .u64 a0_1, .int .u64 x260002_61, .int .u64 x260003_61, .int .i64 x260004_32, .int .i64 x260005_32] 36 (0, 0)) (by (with_reducible repeat (first | refine blk_drewN ?_ _ | refine blk_drew ?_ | refine blk_alloc ?_ _)); exact BK259.out)) : gb272 ≠ gb259))
                           have n8_ := Aside0.mk ((by rw [hg]; exact Nat.ne_of_lt (blk_lt (g := gb260) (o := .cells #[.int .u64 0, .int .u64 0, .int .u64 0, .int .u64 0, .int .i64 0, .int .i64 0] 36 (0, 0)) (by (with_reducible repeat (first | refine blk_drewN ?_ _ | refine blk_drew ?_ | refine blk_alloc ?_ _)); exact BK260.out)) : gb260 ≠ gb272))
                           have n9_ := Aside0.mk ((by rw [hg]; exact Nat.ne_of_gt (blk_lt (g := gb260) (o := .cells #[.int .u64 0, .int .u64 0, .int .u64 0, .int .u64 0, .int .i64 0, .int .i64 0] 36 (0, 0)) (by (with_reducible repeat (first | refine blk_drewN ?_ _ | refine blk_drew ?_ | refine blk_alloc ?_ _)); exact BK260.out)) : gb272 ≠ gb260))
                           clear BK259
                           clear BK260
                           clear HB
                           have BK259 := n0_
                           have BK260 := n1_
                           have HB := n2_
                           have BK272 := n3_
                           have GW272 := n4_
                           have GE272 := n5_
                           have NB259_272 := n6_
                           have NB272_259 := n7_
                           have NB260_272 := n8_
                           have NB272_260 := n9_
                           clear n0_ n1_ n2_ n3_ n4_ n5_ n6_ n7_ n8_ n9_
                           clear hb hbox hg
                           refine hK.out _ _ ⟨(blk_cell BK259.out 0).trans rfl, (blk_cell BK259.out 1).trans rfl, (blk_cell BK259.out 2).trans rfl, (blk_cell BK259.out 3).trans rfl, (blk_cell BK259.out 4).trans rfl, (blk_cell BK259.out 5).trans rfl⟩ (fun hHeld => ?_)
                           clear hK K
                           refine norm_ (a' := ?_) ?_ ?_
                           rotate_left
                           ·show Act.put _ (some 9) _ = _
                            simp only [Act.put, List.setIfInBounds_toArray, List.set_cons_zero, List.set_cons_succ, i64_w, i32_w]
                            rfl
                           refine one_ (i := 7) (N := some 155) #[true, true, true, true, true, true, true, true, false, false, false, true, false, false] rfl rfl (one_of HT_.out (by kernel_rfl)) (by decide) (fun K hK => ?_)
                           refine goes_ Try.func85 (by kernel_rfl) rfl #[.agg #[.int .u64 a0_0, .int .u64 a0_1], .agg #[.int .u64 t267, .int .u64 t268]] (by rfl) rfl rfl (by (try simp only [List.map_toArray, List.map_cons, List.map_nil]); first | done | rfl | (simp only [List.length_drop, List.length_take]; rfl)) ?_
                           with_reducible refine (halberdref06_Meet.calls kj74 a0_0 a0_1 t267 t268 t269 t270 false _ A87.out).mono ?_
                           rintro e w106 ⟨rfl, hb⟩
                           refine ⟨_, rfl, ?_⟩
                           have n0_ := Aside0.mk (blk_below (g := gb259) (o := .cells #[.int .u64 a0_0, .int .u64 a0_1, .int .u64 x260002_61, .int .u64 x260003_61, .int .i64 x260004_32, .int .i64 x260005_32] 36 (0, 0)) (by (with_reducible repeat (first | refine blk_drewN ?_ _ | refine blk_drew ?_ | refine blk_alloc ?_ _)); exact BK259.out) hb)
                           have n1_ := Aside0.mk (blk_below (g := gb260) (o := .cells #[.int .u64 0, .int .u64 0, .int .u64 0, .int .u64 0, .int .i64 0, .int .i64 0] 36 (0, 0)) (by (with_reducible repeat (first | refine blk_drewN ?_ _ | refine blk_drew ?_ | refine blk_alloc ?_ _)); exact BK260.out) hb)
                           have n2_ := Aside0.mk (blk_below (g := gb272) (o := .cells #[.int .u64 0, .int .u64 0] 34 (0, 0)) (by (with_reducible repeat (first | refine blk_drewN ?_ _ | refine blk_drew ?_ | refine blk_alloc ?_ _)); exact BK272.out) hb)
                           have n3_ := Aside0.mk (below_step (by repeat (first | (with_reducible first | exact HB.out | apply below_alloc | apply pw_below_drewN | apply below_drew1 | refine below_set ?_ GE259.out | refine below_set ?_ GE260.out | refine below_set ?_ GE272.out) | exact HB.out)) hb)
                           clear BK259
                           clear BK260
                           clear BK272
                           clear HB
                           have BK259 := n0_
                           have BK260 := n1_
                           have BK272 := n2_
                           have HB := n3_
                           clear n0_ n1_ n2_ n3_
                           (try clear hb)
                           (try clear hb2)
                           (try clear hk)
                           (try clear hi)
                           refine hK.out _ _ ⟨(blk_cell BK259.out 0).trans rfl, (blk_cell BK259.out 1).trans rfl, (blk_cell BK259.out 2).trans rfl, (blk_cell BK259.out 3).trans rfl, (blk_cell BK259.out 4).trans rfl, (blk_cell BK259.out 5).trans rfl⟩ (fun hHeld => ?_)
                           clear hK K
                           refine norm_ (a' := ?_) ?_ ?_
                           rotate_left
                           ·show Act.put _ (some 155) _ = _
                            simp only [Act.put, List.setIfInBounds_toArray, List.set_cons_zero, List.set_cons_succ, i64_w, i32_w]
                            rfl
                           refine pure_ (i := 8) (N := some 147) (v := ?_) (a' := ?_) #[true, true, true, true, true, true, true, true, true, false, false, true, false, false] rfl rfl (any_of HT_.out (by kernel_rfl)) (fun _ _ _ h => h) (Or.inl ⟨by rfl, ?_⟩) ?_ ?_
                           rotate_left
                           ·intro w'
                            go_simp
                            with_reducible rfl
                           rotate_left
                           ·simp only [Act.put, List.setIfInBounds_toArray, List.set_cons_zero, List.set_cons_succ, i64_w, i32_w]
                            rfl
                           refine pure_ (i := 9) (N := some 156) (v := ?_) (a' := ?_) #[true, true, true, true, true, true, true, true, true, true, false, true, false, false] rfl rfl (any_of HT_.out (by kernel_rfl)) (fun _ _ _ h => h) (Or.inl ⟨by rfl, ?_⟩) ?_ ?_
                           rotate_left
                           ·intro w'
                            go_simp
                            with_reducible rfl
                           rotate_left
                           ·simp only [Act.put, List.setIfInBounds_toArray, List.set_cons_zero, List.set_cons_succ, i64_w, i32_w]
                            rfl
                           refine pure_ (i := 10) (N := some 157) (v := ?_) (a' := ?_) #[true, true, true, true, true, true, true, true, true, true, true, true, false, false] rfl rfl (any_of HT_.out (by kernel_rfl)) (fun _ _ _ h => h) (Or.inl ⟨by rfl, ?_⟩) ?_ ?_
                           rotate_left
                           ·intro w'
                            go_simp
                            with_reducible rfl
                           rotate_left
                           ·simp only [Act.put, List.setIfInBounds_toArray, List.set_cons_zero, List.set_cons_succ, i64_w, i32_w]
                            rfl
                           exact norm_ (by simp only [putAll, Act.put, List.setIfInBounds_toArray, List.set_cons_zero, List.set_cons_succ]) (hCont (gb272) _ ⟨hHeld, (by (with_reducible repeat (first | refine blk_drewN ?_ _ | refine blk_drew ?_ | refine blk_alloc ?_ _)); exact BK259.out), (by (with_reducible repeat (first | refine blk_drewN ?_ _ | refine blk_drew ?_ | refine blk_alloc ?_ _)); exact BK260.out), (by (with_reducible repeat (first | refine blk_drewN ?_ _ | refine blk_drew ?_ | refine blk_alloc ?_ _)); exact BK272.out), GW272.out, GE272.out, NB259_272.out, NB272_259.out, NB260_272.out, NB272_260.out, (by repeat (first | (with_reducible first | exact HB.out | apply below_alloc | apply pw_below_drewN | apply below_drew1 | refine below_set ?_ GE259.out | refine below_set ?_ GE260.out | refine below_set ?_ GE272.out) | exact HB.out))⟩)
                         ·skip
                          refine box_step ?hg (N := 9) ?hd (cs := #[.int .u64 0, .int .u64 0]) (t := 34) ?hr ?_; (case hd => rfl); (case hg => rfl); (case hr => first | (go_simp; done) | (go_simp; rfl))
                          intro gb272 hg w104 hbox hb
                          have n0_ := Aside0.mk (blk_below (g := gb259) (o := .cells #[.int .u64 a0_0, .int .u64 a0_1, .int .u64 x260002_61, .int .u64 x260003_61, .int .i64 x260004_32, .int .i64 x260005_32] 36 (0, 0)) (by (with_reducible repeat (first | refine blk_drewN ?_ _ | refine blk_drew ?_ | refine blk_alloc ?_ _)); exact BK259.out) hb)
                          have n1_ := Aside0.mk (blk_below (g := gb260) (o := .cells #[.int .u64 0, .int .u64 0, .int .u64 0, .int .u64 0, .int .i64 0, .int .i64 0] 36 (0, 0)) (by (with_reducible repeat (first | refine blk_drewN ?_ _ | refine blk_drew ?_ | refine blk_alloc ?_ _)); exact BK260.out) hb)
                          have n2_ := Aside0.mk (below_step (by repeat (first | (with_reducible first | exact HB.out | apply below_alloc | apply pw_below_drewN | apply below_drew1 | refine below_set ?_ GE259.out | refine below_set ?_ GE260.out) | exact HB.out)) hb)
                          have n3_ := Aside0.mk (hbox)
                          have n4_ := Aside0.mk ((by rw [hg]; exact (below_size (by repeat (first | (with_reducible first | exact HB.out | apply below_alloc | apply pw_below_drewN | apply below_drew1 | refine below_set ?_ GE259.out | refine below_set ?_ GE260.out) | exact HB.out))) : w.heap.size ≤ gb272))
                          have n5_ := Aside0.mk ((by rw [hg]; exact (below_size (by repeat (first | (with_reducible first | exact HB.out | apply below_alloc | apply pw_below_drewN | apply below_drew1 | refine below_set ?_ GE259.out | refine below_set ?_ GE260.out) | exact HB.out))) : w.heap.size ≤ gb272))
                          have n6_ := Aside0.mk ((by rw [hg]; exact Nat.ne_of_lt (blk_lt (g := gb259) (o := .cells #[.int .u64 a0_0, .int .u64 a0_1, .int .u64 x260002_61, .int .u64 x260003_61, .int .i64 x260004_32, .int .i64 x260005_32] 36 (0, 0)) (by (with_reducible repeat (first | refine blk_drewN ?_ _ | refine blk_drew ?_ | refine blk_alloc ?_ _)); exact BK259.out)) : gb259 ≠ gb272))
                          have n7_ := Aside0.mk ((by rw [hg]; exact Nat.ne_of_gt (blk_lt (g := gb259) (o := .cells #[.int .u64 a0_0, .int .u64 a0_1, .int .u64 x260002_61, .int .u64 x260003_61, .int .i64 x260004_32, .int .i64 x260005_32] 36 (0, 0)) (by (with_reducible repeat (first | refine blk_drewN ?_ _ | refine blk_drew ?_ | refine blk_alloc ?_ _)); exact BK259.out)) : gb272 ≠ gb259))
                          have n8_ := Aside0.mk ((by rw [hg]; exact Nat.ne_of_lt (blk_lt (g := gb260) (o := .cells #[.int .u64 0, .int .u64 0, .int .u64 0, .int .u64 0, .int .i64 0, .int .i64 0] 36 (0, 0)) (by (with_reducible repeat (first | refine blk_drewN ?_ _ | refine blk_drew ?_ | refine blk_alloc ?_ _)); exact BK260.out)) : gb260 ≠ gb272))
                          have n9_ := Aside0.mk ((by rw [hg]; exact Nat.ne_of_gt (blk_lt (g := gb260) (o := .cells #[.int .u64 0, .int .u64 0, .int .u64 0, .int .u64 0, .int .i64 0, .int .i64 0] 36 (0, 0)) (by (with_reducible repeat (first | refine blk_drewN ?_ _ | refine blk_drew ?_ | refine blk_alloc ?_ _)); exact BK260.out)) : gb272 ≠ gb260))
                          clear BK259
                          clear BK260
                          clear HB
                          have BK259 := n0_
                          have BK260 := n1_
                          have HB := n2_
                          have BK272 := n3_
                          have GW272 := n4_
                          have GE272 := n5_
                          have NB259_272 := n6_
                          have NB272_259 := n7_
                          have NB260_272 := n8_
                          have NB272_260 := n9_
                          clear n0_ n1_ n2_ n3_ n4_ n5_ n6_ n7_ n8_ n9_
                          clear hb hbox hg
                          refine hK.out _ _ ⟨(blk_cell BK259.out 0).trans rfl, (blk_cell BK259.out 1).trans rfl, (blk_cell BK259.out 2).trans rfl, (blk_cell BK259.out 3).trans rfl, (blk_cell BK259.out 4).trans rfl, (blk_cell BK259.out 5).trans rfl⟩ (fun hHeld => ?_)
                          clear hK K
                          refine norm_ (a' := ?_) ?_ ?_
                          rotate_left
                          ·show Act.put _ (some 9) _ = _
                           simp only [Act.put, List.setIfInBounds_toArray, List.set_cons_zero, List.set_cons_succ, i64_w, i32_w]
                           rfl
                          refine one_ (i := 6) (N := some 154) #[true, true, true, true, true, true, true, false, false, false, false, true, false, false] rfl rfl (one_of HT_.out (by kernel_rfl)) (by decide) (fun K hK => ?_)
                          refine goes_ Try.func86 (by kernel_rfl) rfl #[.int .u64 x260002_61, .int .u64 x260003_61] (by rfl) rfl rfl (by (try simp only [List.map_toArray, List.map_cons, List.map_nil]); first | done | rfl | (simp only [List.length_drop, List.length_take]; rfl)) ?_
                          with_reducible refine (halberdref06_Range.calls kj74 x260002_61 x260003_61 t267 t268 _ A86.out).mono ?_
                          rintro e w105 ⟨rfl, hb⟩
                          refine ⟨_, rfl, ?_⟩
                          have n0_ := Aside0.mk (blk_below (g := gb259) (o := .cells #[.int .u64 a0_0, .int .u64 a0_1, .int .u64 x260002_61, .int .u64 x260003_61, .int .i64 x260004_32, .int .i64 x260005_32] 36 (0, 0)) (by (with_reducible repeat (first | refine blk_drewN ?_ _ | refine blk_drew ?_ | refine blk_alloc ?_ _)); exact BK259.out) hb)
                          have n1_ := Aside0.mk (blk_below (g := gb260) (o := .cells #[.int .u64 0, .int .u64 0, .int .u64 0, .int .u64 0, .int .i64 0, .int .i64 0] 36 (0, 0)) (by (with_reducible repeat (first | refine blk_drewN ?_ _ | refine blk_drew ?_ | refine blk_alloc ?_ _)); exact BK260.out) hb)
                          have n2_ := Aside0.mk (blk_below (g := gb272) (o := .cells #[.int .u64 0, .int .u64 0] 34 (0, 0)) (by (with_reducible repeat (first | refine blk_drewN ?_ _ | refine blk_drew ?_ | refine blk_alloc ?_ _)); exact BK272.out) hb)
                          have n3_ := Aside0.mk (below_step (by repeat (first | (with_reducible first | exact HB.out | apply below_alloc | apply pw_below_drewN | apply below_drew1 | refine below_set ?_ GE259.out | refine below_set ?_ GE260.out | refine below_set ?_ GE272.out) | exact HB.out)) hb)
                          clear BK259
                          clear BK260
                          clear BK272
                          clear HB
                          have BK259 := n0_
                          have BK260 := n1_
                          have BK272 := n2_
                          have HB := n3_
                          clear n0_ n1_ n2_ n3_
                          (try clear hb)
                          (try clear hb2)
                          (try clear hk)
                          (try clear hi)
                          refine hK.out _ _ ⟨(blk_cell BK259.out 0).trans rfl, (blk_cell BK259.out 1).trans rfl, (blk_cell BK259.out 2).trans rfl, (blk_cell BK259.out 3).trans rfl, (blk_cell BK259.out 4).trans rfl, (blk_cell BK259.out 5).trans rfl⟩ (fun hHeld => ?_)
                          clear hK K
                          refine norm_ (a' := ?_) ?_ ?_
                          rotate_left
                          ·show Act.put _ (some 154) _ = _
                           simp only [Act.put, List.setIfInBounds_toArray, List.set_cons_zero, List.set_cons_succ, i64_w, i32_w]
                           rfl
                          refine one_ (i := 7) (N := some 155) #[true, true, true, true, true, true, true, true, false, false, false, true, false, false] rfl rfl (one_of HT_.out (by kernel_rfl)) (by decide) (fun K hK => ?_)
                          refine goes_ Try.func85 (by kernel_rfl) rfl #[.agg #[.int .u64 a0_0, .int .u64 a0_1], .agg #[.int .u64 t267, .int .u64 t268]] (by rfl) rfl rfl (by (try simp only [List.map_toArray, List.map_cons, List.map_nil]); first | done | rfl | (simp only [List.length_drop, List.length_take]; rfl)) ?_
                          with_reducible refine (halberdref06_Meet.calls kj74 a0_0 a0_1 t267 t268 t269 t270 false _ A87.out).mono ?_
                          rintro e w106 ⟨rfl, hb⟩
                          refine ⟨_, rfl, ?_⟩
                          have n0_ := Aside0.mk (blk_below (g := gb259) (o := .cells #[.int .u64 a0_0, .int .u64 a0_1, .int .u64 x260002_61, .int .u64 x260003_61, .int .i64 x260004_32, .int .i64 x260005_32] 36 (0, 0)) (by (with_reducible repeat (first | refine blk_drewN ?_ _ | refine blk_drew ?_ | refine blk_alloc ?_ _)); exact BK259.out) hb)
                          have n1_ := Aside0.mk (blk_below (g := gb260) (o := .cells #[.int .u64 0, .int .u64 0, .int .u64 0, .int .u64 0, .int .i64 0, .int .i64 0] 36 (0, 0)) (by (with_reducible repeat (first | refine blk_drewN ?_ _ | refine blk_drew ?_ | refine blk_alloc ?_ _)); exact BK260.out) hb)
                          have n2_ := Aside0.mk (blk_below (g := gb272) (o := .cells #[.int .u64 0, .int .u64 0] 34 (0, 0)) (by (with_reducible repeat (first | refine blk_drewN ?_ _ | refine blk_drew ?_ | refine blk_alloc ?_ _)); exact BK272.out) hb)
                          have n3_ := Aside0.mk (below_step (by repeat (first | (with_reducible first | exact HB.out | apply below_alloc | apply pw_below_drewN | apply below_drew1 | refine below_set ?_ GE259.out | refine below_set ?_ GE260.out | refine below_set ?_ GE272.out) | exact HB.out)) hb)
                          clear BK259
                          clear BK260
                          clear BK272
                          clear HB
                          have BK259 := n0_
                          have BK260 := n1_
                          have BK272 := n2_
                          have HB := n3_
                          clear n0_ n1_ n2_ n3_
                          (try clear hb)
                          (try clear hb2)
                          (try clear hk)
                          (try clear hi)
                          refine hK.out _ _ ⟨(blk_cell BK259.out 0).trans rfl, (blk_cell BK259.out 1).trans rfl, (blk_cell BK259.out 2).trans rfl, (blk_cell BK259.out 3).trans rfl, (blk_cell BK259.out 4).trans rfl, (blk_cell BK259.out 5).trans rfl⟩ (fun hHeld => ?_)
                          clear hK K
                          refine norm_ (a' := ?_) ?_ ?_
                          rotate_left
                          ·show Act.put _ (some 155) _ = _
                           simp only [Act.put, List.setIfInBounds_toArray, List.set_cons_zero, List.set_cons_succ, i64_w, i32_w]
                           rfl
                          refine pure_ (i := 8) (N := some 147) (v := ?_) (a' := ?_) #[true, true, true, true, true, true, true, true, true, false, false, true, false, false] rfl rfl (any_of HT_.out (by kernel_rfl)) (fun _ _ _ h => h) (Or.inl ⟨by rfl, ?_⟩) ?_ ?_
                          rotate_left
                          ·intro w'
                           go_simp
                           with_reducible rfl
                          rotate_left
                          ·simp only [Act.put, List.setIfInBounds_toArray, List.set_cons_zero, List.set_cons_succ, i64_w, i32_w]
                           rfl
                          refine pure_ (i := 9) (N := some 156) (v := ?_) (a' := ?_) #[true, true, true, true, true, true, true, true, true, true, false, true, false, false] rfl rfl (any_of HT_.out (by kernel_rfl)) (fun _ _ _ h => h) (Or.inl ⟨by rfl, ?_⟩) ?_ ?_
                          rotate_left
                          ·intro w'
                           go_simp
                           with_reducible rfl
                          rotate_left
                          ·simp only [Act.put, List.setIfInBounds_toArray, List.set_cons_zero, List.set_cons_succ, i64_w, i32_w]
                           rfl
                          refine pure_ (i := 10) (N := some 157) (v := ?_) (a' := ?_) #[true, true, true, true, true, true, true, true, true, true, true, true, false, false] rfl rfl (any_of HT_.out (by kernel_rfl)) (fun _ _ _ h => h) (Or.inl ⟨by rfl, ?_⟩) ?_ ?_
                          rotate_left
                          ·intro w'
                           go_simp
                           with_reducible rfl
                          rotate_left
                          ·simp only [Act.put, List.setIfInBounds_toArray, List.set_cons_zero, List.set_cons_succ, i64_w, i32_w]
                           rfl
                          exact norm_ (by simp only [putAll, Act.put, List.setIfInBounds_toArray, List.set_cons_zero, List.set_cons_succ]) (hCont (gb272) _ ⟨hHeld, (by (with_reducible repeat (first | refine blk_drewN ?_ _ | refine blk_drew ?_ | refine blk_alloc ?_ _)); exact BK259.out), (by (with_reducible repeat (first | refine blk_drewN ?_ _ | refine blk_drew ?_ | refine blk_alloc ?_ _)); exact BK260.out), (by (with_reducible repeat (first | refine blk_drewN ?_ _ | refine blk_drew ?_ | refine blk_alloc ?_ _)); exact BK272.out), GW272.out, GE272.out, NB259_272.out, NB272_259.out, NB260_272.out, NB272_260.out, (by repeat (first | (with_reducible first | exact HB.out | apply below_alloc | apply pw_below_drewN | apply below_drew1 | refine below_set ?_ GE259.out | refine below_set ?_ GE260.out | refine below_set ?_ GE272.out) | exact HB.out))⟩)
                        rintro gb272 w107 ⟨hS_, h0_, h1_, h2_, h3_, h4_, h5_, h6_, h7_, h8_, h9_⟩
                        have n0_ : Aside0 (w107.heap[gb259]? = some (.cells #[.int .u64 a0_0, .int .u64 a0_1, .int .u64 x260002_61, .int .u64 x260003_61, .int .i64 x260004_32, .int .i64 x260005_32] 36 (0, 0))) := ⟨h0_⟩
                        have n1_ : Aside0 (w107.heap[gb260]? = some (.cells #[.int .u64 0, .int .u64 0, .int .u64 0, .int .u64 0, .int .i64 0, .int .i64 0] 36 (0, 0))) := ⟨h1_⟩
                        have n2_ : Aside0 (w107.heap[gb272]? = some (.cells #[.int .u64 0, .int .u64 0] 34 (0, 0))) := ⟨h2_⟩
                        have n3_ : Aside0 (w.heap.size ≤ gb272) := ⟨h3_⟩
                        have n4_ : Aside0 (w.heap.size ≤ gb272) := ⟨h4_⟩
                        have n5_ : Aside0 (gb259 ≠ gb272) := ⟨h5_⟩
                        have n6_ : Aside0 (gb272 ≠ gb259) := ⟨h6_⟩
                        have n7_ : Aside0 (gb260 ≠ gb272) := ⟨h7_⟩
                        have n8_ : Aside0 (gb272 ≠ gb260) := ⟨h8_⟩
                        have n9_ : Aside0 (Below w.heap.size w w107) := ⟨h9_⟩
                        clear BK259
                        clear BK260
                        clear HB
                        clear h0_ h1_ h2_ h3_ h4_ h5_ h6_ h7_ h8_ h9_
                        have BK259 := n0_
                        have BK260 := n1_
                        have BK272 := n2_
                        have GW272 := n3_
                        have GE272 := n4_
                        have NB259_272 := n5_
                        have NB272_259 := n6_
                        have NB260_272 := n7_
                        have NB272_260 := n8_
                        have HB := n9_
                        clear n0_ n1_ n2_ n3_ n4_ n5_ n6_ n7_ n8_ n9_
                        have hHeld : w107.cell? ⟨gb259, 0, none⟩ = some (.int .u64 a0_0) ∧ w107.cell? ⟨gb259, 1, none⟩ = some (.int .u64 a0_1) ∧ w107.cell? ⟨gb259, 2, none⟩ = some (.int .u64 x260002_61) ∧ w107.cell? ⟨gb259, 3, none⟩ = some (.int .u64 x260003_61) ∧ w107.cell? ⟨gb259, 4, none⟩ = some (.int .i64 x260004_32) ∧ w107.cell? ⟨gb259, 5, none⟩ = some (.int .i64 x260005_32) := hS_
                        refine norm_ (a' := ?_) ?_ ?_
                        rotate_left
                        ·simp only [putAll, Act.put, List.setIfInBounds_toArray, List.set_cons_zero, List.set_cons_succ]
                         rfl
                        refine one_ (i := 12) (N := none) #[true, true, true, true, true, true, true, true, true, true, true, true, true, false] rfl rfl (one_of HT_.out (by kernel_rfl)) (by decide) (fun K hK => ?_)
                        have hs108 : w107.cell? ⟨gb272, 0, none⟩ = some (.int .u64 0) := (blk_cell BK272.out 0).trans rfl
                        have hfs108 := blk_frozen BK272.out 0
                        have hns108_0 := NB259_272.out
                        have hns108_1 := NB260_272.out
                        have hms108_0 := NB272_259.out
                        have hms108_1 := NB272_260.out
                        have hs109 : w107.cell? ⟨gb272, 1, none⟩ = some (.int .u64 0) := (blk_cell BK272.out 1).trans rfl
                        have hfs109 := blk_frozen BK272.out 1
                        have hns109_0 := NB259_272.out
                        have hns109_1 := NB260_272.out
                        have hms109_0 := NB272_259.out
                        have hms109_1 := NB272_260.out
                        refine skip_ (w1 := ?_) (by rfl) rfl ?_ ?_
                        rotate_left
                        ·go_simp
                         rfl
                        refine hK.out _ _ ⟨((cell_far (p := ⟨gb272, _, none⟩) NB259_272.out _).trans (((cell_far (p := ⟨gb272, _, none⟩) NB259_272.out _).trans (hHeld.1)))), ((cell_far (p := ⟨gb272, _, none⟩) NB259_272.out _).trans (((cell_far (p := ⟨gb272, _, none⟩) NB259_272.out _).trans (hHeld.2.1)))), ((cell_far (p := ⟨gb272, _, none⟩) NB259_272.out _).trans (((cell_far (p := ⟨gb272, _, none⟩) NB259_272.out _).trans (hHeld.2.2.1)))), ((cell_far (p := ⟨gb272, _, none⟩) NB259_272.out _).trans (((cell_far (p := ⟨gb272, _, none⟩) NB259_272.out _).trans (hHeld.2.2.2.1)))), ((cell_far (p := ⟨gb272, _, none⟩) NB259_272.out _).trans (((cell_far (p := ⟨gb272, _, none⟩) NB259_272.out _).trans (hHeld.2.2.2.2.1)))), ((cell_far (p := ⟨gb272, _, none⟩) NB259_272.out _).trans (((cell_far (p := ⟨gb272, _, none⟩) NB259_272.out _).trans (hHeld.2.2.2.2.2))))⟩ (fun hHeld => ?_)
                        clear hK K
                        refine pure_ (i := 13) (N := some 10) (v := ?_) (a' := ?_) #[true, true, true, true, true, true, true, true, true, true, true, true, true, true] rfl rfl (any_of HT_.out (by kernel_rfl)) (fun _ _ _ h => h) (Or.inl ⟨by rfl, ?_⟩) ?_ ?_
                        rotate_left
                        ·intro w'
                         go_simp
                         with_reducible rfl
                        rotate_left
                        ·simp only [Act.put, List.setIfInBounds_toArray, List.set_cons_zero, List.set_cons_succ, i64_w, i32_w]
                         rfl
                        refine done_ (done_of HT_.out (by kernel_rfl)) ?_
                        try go_wp2_with (first | ((with_reducible refine gate_callee (f := 30) rfl ?_); refine goesL_ (some 160) rfl rfl Try.func30 (by kernel_rfl) rfl #[] rfl (by (try simp only [List.map_toArray, List.map_cons, List.map_nil]); first | done | rfl | (simp only [List.length_drop, List.length_take]; rfl)) ?_; (with_reducible refine (halberdref07_All.calls  t273 t274 t275 t276 t277 t278 _ A102.out).mono ?_); rintro e w110 ⟨rfl, hb⟩; refine ⟨_, rfl, ?_⟩; have n0_ := Aside0.mk (blk_below (g := gb259) (o := .cells #[.int .u64 a0_0, .int .u64 a0_1, .int .u64 x260002_61, .int .u64 x260003_61, .int .i64 x260004_32, .int .i64 x260005_32] 36 (0, 0)) (by (with_reducible repeat (first | refine blk_drewN ?_ _ | refine blk_drew ?_ | refine blk_alloc ?_ _)); refine blk_far ?_ NB259_272.out _; refine blk_far ?_ NB259_272.out _; (with_reducible repeat (first | refine blk_drewN ?_ _ | refine blk_drew ?_ | refine blk_alloc ?_ _)); exact BK259.out) hb); have n1_ := Aside0.mk (blk_below (g := gb260) (o := .cells #[.int .u64 0, .int .u64 0, .int .u64 0, .int .u64 0, .int .i64 0, .int .i64 0] 36 (0, 0)) (by (with_reducible repeat (first | refine blk_drewN ?_ _ | refine blk_drew ?_ | refine blk_alloc ?_ _)); refine blk_far ?_ NB260_272.out _; refine blk_far ?_ NB260_272.out _; (with_reducible repeat (first | refine blk_drewN ?_ _ | refine blk_drew ?_ | refine blk_alloc ?_ _)); exact BK260.out) hb); have n2_ := Aside0.mk (blk_below (g := gb272) (o := .cells #[.int .u64 t269, .int .u64 t270] 34 (0, 0)) (by (with_reducible repeat (first | refine blk_drewN ?_ _ | refine blk_drew ?_ | refine blk_alloc ?_ _)); refine blk_put (cs := #[.int .u64 t269, .int .u64 0]) ?_ 1 _ rfl; refine blk_put (cs := #[.int .u64 0, .int .u64 0]) ?_ 0 _ rfl; (with_reducible repeat (first | refine blk_drewN ?_ _ | refine blk_drew ?_ | refine blk_alloc ?_ _)); exact BK272.out) hb); have n3_ := Aside0.mk (below_step (by repeat (first | (with_reducible first | exact HB.out | apply below_alloc | apply pw_below_drewN | apply below_drew1 | refine below_set ?_ GE259.out | refine below_set ?_ GE260.out | refine below_set ?_ GE272.out) | exact HB.out)) hb); clear BK259; clear BK260; clear BK272; clear HB; have BK259 := n0_; have BK260 := n1_; have BK272 := n2_; have HB := n3_; clear n0_ n1_ n2_ n3_; (try clear hb); (try clear hb2); (try clear hk); (try clear hi); have hnb111 := NB260_259.out; have hnc111 := NB259_260.out; have hnb112 := NB260_272.out; have hnc112 := NB272_260.out; have hcz113_0 : w110.cell? ⟨gb260, 0, none⟩ = some (.int .u64 0) := (blk_cell BK260.out 0).trans rfl; have hcz113_1 : w110.cell? ⟨gb260, 1, none⟩ = some (.int .u64 0) := (blk_cell BK260.out 1).trans rfl; have hcz113_2 : w110.cell? ⟨gb260, 2, none⟩ = some (.int .u64 0) := (blk_cell BK260.out 2).trans rfl; have hcz113_3 : w110.cell? ⟨gb260, 3, none⟩ = some (.int .u64 0) := (blk_cell BK260.out 3).trans rfl; have hcz113_4 : w110.cell? ⟨gb260, 4, none⟩ = some (.int .i64 0) := (blk_cell BK260.out 4).trans rfl; have hcz113_5 : w110.cell? ⟨gb260, 5, none⟩ = some (.int .i64 0) := (blk_cell BK260.out 5).trans rfl; have hfz113_0 := blk_frozen BK260.out 0; have hfz113_1 := blk_frozen BK260.out 1; have hfz113_2 := blk_frozen BK260.out 2; have hfz113_3 := blk_frozen BK260.out 3; have hfz113_4 := blk_frozen BK260.out 4; have hfz113_5 := blk_frozen BK260.out 5))
                        refine bodyPost_ret (results_ct rfl _ _ gb260 36 #[.int .u64 t273, .int .u64 t274, .int .u64 t275, .int .u64 t276, .int .i64 t277, .int .i64 t278] (0, 0) _ rfl (by (with_reducible repeat (first | refine blk_drewN ?_ _ | refine blk_drew ?_ | refine blk_alloc ?_ _)); refine blk_put (cs := #[.int .u64 t273, .int .u64 t274, .int .u64 t275, .int .u64 t276, .int .i64 t277, .int .i64 0]) ?_ 5 _ rfl; refine blk_put (cs := #[.int .u64 t273, .int .u64 t274, .int .u64 t275, .int .u64 t276, .int .i64 0, .int .i64 0]) ?_ 4 _ rfl; refine blk_put (cs := #[.int .u64 t273, .int .u64 t274, .int .u64 t275, .int .u64 0, .int .i64 0, .int .i64 0]) ?_ 3 _ rfl; refine blk_put (cs := #[.int .u64 t273, .int .u64 t274, .int .u64 0, .int .u64 0, .int .i64 0, .int .i64 0]) ?_ 2 _ rfl; refine blk_put (cs := #[.int .u64 t273, .int .u64 0, .int .u64 0, .int .u64 0, .int .i64 0, .int .i64 0]) ?_ 1 _ rfl; refine blk_put (cs := #[.int .u64 0, .int .u64 0, .int .u64 0, .int .u64 0, .int .i64 0, .int .i64 0]) ?_ 0 _ rfl; (with_reducible repeat (first | refine blk_drewN ?_ _ | refine blk_drew ?_ | refine blk_alloc ?_ _)); exact BK260.out) Try.underlying36 rfl (by kernel_rfl)) rfl ?_
                        exact ⟨by first | rfl | (simp [errW_none, errW_some] <;> rfl) | (simp [*, errW_none, errW_some] <;> rfl), by repeat (first | (with_reducible first | exact HB.out | apply below_alloc | apply pw_below_drewN | apply below_drew1 | refine below_set ?_ GE259.out | refine below_set ?_ GE260.out | refine below_set ?_ GE272.out) | exact HB.out)⟩

end Go.Proofs.Ytdojdjafleaedaa.PNumBounds
