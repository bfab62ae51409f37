/- Functions of the program that some laws reach, as Lean functions, and proofs that the program's calls come to what they say: written by a program, for the texts that import it; each theorem bears its own conditions. -/
import Derived.Test.YtkgmdcibjjkhlaaPXferSoundx0
import Derived.Test.YtkgmdcibjjkhlaaPXferSoundx9
namespace Go.Proofs.Ytkgmdcibjjkhlaa.PXferSound
open Go.RowKit Go.Proofs.YtkgmdcibjjkhlaaW.PrintWords Go.Proofs.YtkgmdcibjjkhlaaW.PrintLast Go.Proofs.YtkgmdcibjjkhlaaW.PrintMore
attribute [local go_sem] max2_int min2_int max_two min_two max_three min_three max_four min_four   -- for this text's walks alone
set_option linter.unusedVariables false
set_option linter.unusedSimpArgs false

/-! ### halberdref04_Do: function 10 -/
mutual
def halberdref04_Do.j0 : Nat → Int → Bool → Int → Int → Int → Option (Int × Bool)
 | 0, _, _, _, _, _ => none
 | k + 1, x0, x1, x2, x3, x10 => if x0 = 0 then ((halberdref04_cut.f (IntKind.u64.wrap (x2 + x3)) x1).bind fun t269 => (some (t269, true))) else (if x0 = 16 then ((halberdref04_cut.f (IntKind.u64.wrap (x2 - x3)) x1).bind fun t270 => (some (t270, true))) else (if x0 = 32 then ((halberdref04_cut.f (IntKind.u64.wrap (x2 * x3)) x1).bind fun t271 => (some (t271, true))) else (if x0 = 48 then (if x3 > 0 then (if x3 = 0 then (none) else ((halberdref04_cut.f (IntKind.u64.wrap (Int.tdiv x2 x3)) x1).bind fun t272 => (some (t272, true)))) else ((halberdref04_cut.f 0 x1).bind fun t273 => (some (t273, true)))) else (if x0 = 64 then ((halberdref04_cut.f (Go.bits .or .u64 x2 x3) x1).bind fun t274 => (some (t274, true))) else (if x0 = 80 then ((halberdref04_cut.f (Go.bits .and .u64 x2 x3) x1).bind fun t275 => (some (t275, true))) else (if x0 = 96 then (halberdref04_Do.l0 k x1 x10 x2 0) else (if x0 = 112 then (halberdref04_Do.l1 k x1 x10 x2 0) else (if x0 = 128 then ((halberdref04_cut.f (IntKind.u64.wrap (-x2)) x1).bind fun t278 => (some (t278, true))) else (if x0 = 144 then (if x3 > 0 then (if x3 = 0 then (none) else ((halberdref04_cut.f (Int.tmod x2 x3) x1).bind fun t279 => (some (t279, true)))) else ((halberdref04_cut.f x2 x1).bind fun t280 => (some (t280, true)))) else (if x0 = 160 then ((halberdref04_cut.f (Go.bits .xor .u64 x2 x3) x1).bind fun t281 => (some (t281, true))) else (if x0 = 176 then ((halberdref04_cut.f x3 x1).bind fun t282 => (some (t282, true))) else (if x0 = 192 then ((halberdref04_Signed.f k x2 x1).bind fun t283 => (halberdref04_Do.l2 k x1 x10 t283 0)) else (some (0, false))))))))))))))
def halberdref04_Do.l0 : Nat → Bool → Int → Int → Int → Option (Int × Bool)
 | 0, _, _, _, _ => none
 | k + 1, x1, x10, x11, x12 => if x12 < x10 then (halberdref04_Do.l0 k x1 x10 (IntKind.u64.wrap (2 * x11)) (IntKind.u64.wrap (x12 + 1))) else ((halberdref04_cut.f x11 x1).bind fun t276 => (some (t276, true)))
def halberdref04_Do.l1 : Nat → Bool → Int → Int → Int → Option (Int × Bool)
 | 0, _, _, _, _ => none
 | k + 1, x1, x10, x11, x13 => if x13 < x10 then (halberdref04_Do.l1 k x1 x10 (IntKind.u64.wrap (Int.tdiv x11 2)) (IntKind.u64.wrap (x13 + 1))) else ((halberdref04_cut.f x11 x1).bind fun t277 => (some (t277, true)))
def halberdref04_Do.l2 : Nat → Bool → Int → Int → Int → Option (Int × Bool)
 | 0, _, _, _, _ => none
 | k + 1, x1, x10, x14, x15 => if x15 < x10 then (if x14 < 0 then (if (Int.tmod x14 2) = 0 then (halberdref04_Do.l2 k x1 x10 (wrap64 (Int.tdiv x14 2)) (IntKind.u64.wrap (x15 + 1))) else (halberdref04_Do.l2 k x1 x10 (wrap64 ((wrap64 (Int.tdiv x14 2)) - 1)) (IntKind.u64.wrap (x15 + 1)))) else (halberdref04_Do.l2 k x1 x10 (wrap64 (Int.tdiv x14 2)) (IntKind.u64.wrap (x15 + 1)))) else ((halberdref04_cut.f (IntKind.u64.wrap (x14)) x1).bind fun t284 => (some (t284, true)))
end
def halberdref04_Do.f (k : Nat) (a0 : Int) (a1 : Bool) (a2 : Int) (a3 : Int) : Option (Int × Bool) := (halberdref04_cut.f a2 a1).bind fun t267 => ((halberdref04_cut.f a3 a1).bind fun t268 => (if a1 = true then (halberdref04_Do.j0 k a0 a1 t267 t268 (Int.tmod t268 64)) else (halberdref04_Do.j0 k a0 a1 t267 t268 (Int.tmod t268 32))))
theorem halberdref04_Do.mono_l : ∀ k, (∀ y0 y1 y2 y3 y4, LeO (halberdref04_Do.j0 k y0 y1 y2 y3 y4) (halberdref04_Do.j0 (k + 1) y0 y1 y2 y3 y4)) ∧ (∀ y0 y1 y2 y3, LeO (halberdref04_Do.l0 k y0 y1 y2 y3) (halberdref04_Do.l0 (k + 1) y0 y1 y2 y3)) ∧ (∀ y0 y1 y2 y3, LeO (halberdref04_Do.l1 k y0 y1 y2 y3) (halberdref04_Do.l1 (k + 1) y0 y1 y2 y3)) ∧ (∀ y0 y1 y2 y3, LeO (halberdref04_Do.l2 k y0 y1 y2 y3) (halberdref04_Do.l2 (k + 1) y0 y1 y2 y3))
 | 0 => ⟨fun _ _ _ _ _ r h => by simp [halberdref04_Do.j0] at h, fun _ _ _ _ r h => by simp [halberdref04_Do.l0] at h, fun _ _ _ _ r h => by simp [halberdref04_Do.l1] at h, fun _ _ _ _ r h => by simp [halberdref04_Do.l2] at h⟩
 | k + 1 => by
  obtain ⟨ih0, ih1, ih2, ih3⟩ := halberdref04_Do.mono_l k
  refine ⟨?_, ?_, ?_, ?_⟩
  ·intro y0 y1 y2 y3 y4
   unfold halberdref04_Do.j0
   repeat' first
   | (with_reducible exact ih0 _ _ _ _ _)
   | (with_reducible exact ih1 _ _ _ _)
   | (with_reducible exact ih2 _ _ _ _)
   | (with_reducible exact ih3 _ _ _ _)
   | (with_reducible exact halberdref04_Signed.mono _ _ _)
   | (with_reducible exact LeO.refl _)
   | (with_reducible exact LeO.none _)
   | (with_reducible refine LeO.ite ?_ ?_)
   | (with_reducible refine LeO.bind ?_ (fun _ => ?_))
   | exact ih0 _ _ _ _ _
   | exact ih1 _ _ _ _
   | exact ih2 _ _ _ _
   | exact ih3 _ _ _ _
   | exact halberdref04_Signed.mono _ _ _
   | exact LeO.none _
   | refine LeO.ite ?_ ?_
   | refine LeO.bind ?_ (fun _ => ?_)
  ·intro y0 y1 y2 y3
   unfold halberdref04_Do.l0
   repeat' first
   | (with_reducible exact ih0 _ _ _ _ _)
   | (with_reducible exact ih1 _ _ _ _)
   | (with_reducible exact ih2 _ _ _ _)
   | (with_reducible exact ih3 _ _ _ _)
   | (with_reducible exact halberdref04_Signed.mono _ _ _)
   | (with_reducible exact LeO.refl _)
   | (with_reducible exact LeO.none _)
   | (with_reducible refine LeO.ite ?_ ?_)
   | (with_reducible refine LeO.bind ?_ (fun _ => ?_))
   | exact ih0 _ _ _ _ _
   | exact ih1 _ _ _ _
   | exact ih2 _ _ _ _
   | exact ih3 _ _ _ _
   | exact halberdref04_Signed.mono _ _ _
   | exact LeO.none _
   | refine LeO.ite ?_ ?_
   | refine LeO.bind ?_ (fun _ => ?_)
  ·intro y0 y1 y2 y3
   unfold halberdref04_Do.l1
   repeat' first
   | (with_reducible exact ih0 _ _ _ _ _)
   | (with_reducible exact ih1 _ _ _ _)
   | (with_reducible exact ih2 _ _ _ _)
   | (with_reducible exact ih3 _ _ _ _)
   | (with_reducible exact halberdref04_Signed.mono _ _ _)
   | (with_reducible exact LeO.refl _)
   | (with_reducible exact LeO.none _)
   | (with_reducible refine LeO.ite ?_ ?_)
   | (with_reducible refine LeO.bind ?_ (fun _ => ?_))
   | exact ih0 _ _ _ _ _
   | exact ih1 _ _ _ _
   | exact ih2 _ _ _ _
   | exact ih3 _ _ _ _
   | exact halberdref04_Signed.mono _ _ _
   | exact LeO.none _
   | refine LeO.ite ?_ ?_
   | refine LeO.bind ?_ (fun _ => ?_)
  ·intro y0 y1 y2 y3
   unfold halberdref04_Do.l2
   repeat' first
   | (with_reducible exact ih0 _ _ _ _ _)
   | (with_reducible exact ih1 _ _ _ _)
   | (with_reducible exact ih2 _ _ _ _)
   | (with_reducible exact ih3 _ _ _ _)
   | (with_reducible exact halberdref04_Signed.mono _ _ _)
   | (with_reducible exact LeO.refl _)
   | (with_reducible exact LeO.none _)
   | (with_reducible refine LeO.ite ?_ ?_)
   | (with_reducible refine LeO.bind ?_ (fun _ => ?_))
   | exact ih0 _ _ _ _ _
   | exact ih1 _ _ _ _
   | exact ih2 _ _ _ _
   | exact ih3 _ _ _ _
   | exact halberdref04_Signed.mono _ _ _
   | exact LeO.none _
   | refine LeO.ite ?_ ?_
   | refine LeO.bind ?_ (fun _ => ?_)
theorem halberdref04_Do.mono : ∀ a0 a1 a2 a3 k, LeO (halberdref04_Do.f k a0 a1 a2 a3) (halberdref04_Do.f (k + 1) a0 a1 a2 a3) := by
 intro a0 a1 a2 a3 k
 obtain ⟨ih0, ih1, ih2, ih3⟩ := halberdref04_Do.mono_l k
 unfold halberdref04_Do.f
 repeat' first
   | (with_reducible exact ih0 _ _ _ _ _)
   | (with_reducible exact ih1 _ _ _ _)
   | (with_reducible exact ih2 _ _ _ _)
   | (with_reducible exact ih3 _ _ _ _)
   | (with_reducible exact halberdref04_Signed.mono _ _ _)
   | (with_reducible exact LeO.refl _)
   | (with_reducible exact LeO.none _)
   | (with_reducible refine LeO.ite ?_ ?_)
   | (with_reducible refine LeO.bind ?_ (fun _ => ?_))
   | exact ih0 _ _ _ _ _
   | exact ih1 _ _ _ _
   | exact ih2 _ _ _ _
   | exact ih3 _ _ _ _
   | exact halberdref04_Signed.mono _ _ _
   | exact LeO.none _
   | refine LeO.ite ?_ ?_
   | refine LeO.bind ?_ (fun _ => ?_)
set_option maxHeartbeats 8000000 in
set_option maxRecDepth 100000 in
theorem halberdref04_Do.calls (k : Nat) (a0 : Int) (a1 : Bool) (a2 : Int) (a3 : Int) (r1 : Int) (r2 : Bool) (w : World) (h : halberdref04_Do.f k a0 a1 a2 a3 = some (r1, r2)) :
  Calls Try.prog 10 #[.int .u8 a0, .bool a1, .int .u64 a2, .int .u64 a3] w fun e w' => e = .returned (.tuple #[.int .u64 r1, .bool r2]) ∧ Drawn0 w w' := by
 have H : ((halberdref04_cut.f a2 a1).bind fun t267 => ((halberdref04_cut.f a3 a1).bind fun t268 => (if a1 = true then (halberdref04_Do.j0 k a0 a1 t267 t268 (Int.tmod t268 64)) else (halberdref04_Do.j0 k a0 a1 t267 t268 (Int.tmod t268 32))))) = some (r1, r2) := h
 clear h
 replace H := Option.bind_eq_some_iff.mp H
 obtain ⟨t267, A50, H⟩ := H
 replace H : ((halberdref04_cut.f a3 a1).bind fun t268 => (if a1 = true then (halberdref04_Do.j0 k a0 a1 t267 t268 (Int.tmod t268 64)) else (halberdref04_Do.j0 k a0 a1 t267 t268 (Int.tmod t268 32)))) = some (r1, r2) := H
 have A5 := Aside0.mk A50
 clear A50
 replace H := Option.bind_eq_some_iff.mp H
 obtain ⟨t268, A60, H⟩ := H
 replace H : (if a1 = true then (halberdref04_Do.j0 k a0 a1 t267 t268 (Int.tmod t268 64)) else (halberdref04_Do.j0 k a0 a1 t267 t268 (Int.tmod t268 32))) = some (r1, r2) := H
 have A6 := Aside0.mk A60
 clear A60
 have HC7 := Aside0.mk H
 clear H
 go_enter Try.func10, Try.ntmps10
 go_upto_if 25 with (first | ((with_reducible refine gate_callee (f := 24) rfl ?_); refine goesL_ (some 18) rfl rfl Try.func24 (by kernel_rfl) rfl #[.int .u64 a2, .bool a1] rfl (by (try simp only [List.map_toArray, List.map_cons, List.map_nil]); first | done | rfl | (simp only [List.length_drop, List.length_take]; rfl)) ?_; (with_reducible refine (halberdref04_cut.calls a2 a1 t267 _ A5.out).mono ?_); rintro e w' ⟨rfl, ⟨nd, rfl⟩⟩; refine ⟨_, rfl, ?_⟩) | ((with_reducible refine gate_callee (f := 24) rfl ?_); refine goesL_ (some 21) rfl rfl Try.func24 (by kernel_rfl) rfl #[.int .u64 a3, .bool a1] rfl (by (try simp only [List.map_toArray, List.map_cons, List.map_nil]); first | done | rfl | (simp only [List.length_drop, List.length_take]; rfl)) ?_; (with_reducible refine (halberdref04_cut.calls a3 a1 t268 _ A6.out).mono ?_); rintro e w' ⟨rfl, ⟨nd, rfl⟩⟩; refine ⟨_, rfl, ?_⟩))
 (try simp only [Act.put, List.setIfInBounds_toArray, List.set_cons_zero, List.set_cons_succ])
 go_cut [10] (fun v10 wc => ∃ (kq : Nat) (x10_6 : Int), v10 = .int .u64 x10_6 ∧ Aside0 (halberdref04_Do.j0 kq a0 a1 t267 t268 x10_6 = some (r1, r2)) ∧ Aside0 (kq ≤ k) ∧ Drawn0 w wc)
 case first =>
  have H := HC7.out
  clear HC7
  by_cases c8 : a1 = true
  ·subst c8
   have H1 : (halberdref04_Do.j0 k a0 true t267 t268 (Int.tmod t268 64)) = some (r1, r2) := by rw [if_pos rfl] at H; exact H
   clear H
   have H := H1
   clear H1
   have H' := Aside0.mk H
   clear H
   go_wp2
   go_meet
   case rel => exact ⟨_, (Int.tmod t268 64), (by first | rfl | (simp; done) | (simp [*]; done)), H', ⟨by first | omega | exact Nat.le_refl _⟩, by repeat (first | exact Drawn0.refl _ | apply Drawn0.step)⟩
  ·replace c8 := Bool.eq_false_iff.mpr c8
   subst c8
   have H1 : (halberdref04_Do.j0 k a0 false t267 t268 (Int.tmod t268 32)) = some (r1, r2) := by rw [if_neg (show ¬ (false = true) by decide)] at H; exact H
   clear H
   have H := H1
   clear H1
   have H' := Aside0.mk H
   clear H
   go_wp2
   go_meet
   case rel => exact ⟨_, (Int.tmod t268 32), (by first | rfl | (simp; done) | (simp [*]; done)), H', ⟨by first | omega | exact Nat.le_refl _⟩, by repeat (first | exact Drawn0.refl _ | apply Drawn0.step)⟩
 case rest =>
  clear HC7
  try clear c1
  try clear c2
  try clear p2
  try clear c8
  obtain ⟨kq, x10_6, rfl, HA, HJ6, ⟨mc6, rfl⟩⟩ := hcut
  cases kq with
  | zero => exact absurd HA.out (by simp [halberdref04_Do.j0])
  | succ kj6 =>
   have H := HA.out
   clear HA
   simp only [halberdref04_Do.j0] at H
   by_cases c9 : a0 = 0
   ·rw [if_pos c9] at H
    have c9b0 : (a0 == 0) = true := beq_iff_eq.mpr c9
    have c9b1 : (a0 != 0) = false := bne_eq_false_iff_eq.mpr c9
    clear c9
    replace H := Option.bind_eq_some_iff.mp H
    obtain ⟨t269, A100, H⟩ := H
    replace H : (some (t269, true)) = some (r1, r2) := H
    have A10 := Aside0.mk A100
    clear A100
    simp only [Option.some.injEq, Prod.mk.injEq] at H
    obtain ⟨rfl, rfl⟩ := H
    go_wp2_with (first | ((with_reducible refine gate_callee (f := 24) rfl ?_); refine goesL_ (some 127) rfl rfl Try.func24 (by kernel_rfl) rfl #[.int .u64 (IntKind.u64.wrap (t267 + t268)), .bool a1] rfl (by (try simp only [List.map_toArray, List.map_cons, List.map_nil]); first | done | rfl | (simp only [List.length_drop, List.length_take]; rfl)) ?_; (with_reducible refine (halberdref04_cut.calls (IntKind.u64.wrap (t267 + t268)) a1 t269 _ A10.out).mono ?_); rintro e w' ⟨rfl, ⟨nd, rfl⟩⟩; refine ⟨_, rfl, ?_⟩))
    go_ret2
    exact ⟨by first | rfl | (simp; done) | (simp [*]; done), by repeat (first | exact Drawn0.refl _ | apply Drawn0.step)⟩
   ·rw [if_neg c9] at H
    have c9b0 : (a0 == 0) = false := beq_eq_false_iff_ne.mpr c9
    have c9b1 : (a0 != 0) = true := bne_iff_ne.mpr c9
    by_cases c11 : a0 = 16
    ·rw [if_pos c11] at H
     have c11b0 : (a0 == 16) = true := beq_iff_eq.mpr c11
     have c11b1 : (a0 != 16) = false := bne_eq_false_iff_eq.mpr c11
     clear c11
     replace H := Option.bind_eq_some_iff.mp H
     obtain ⟨t270, A120, H⟩ := H
     replace H : (some (t270, true)) = some (r1, r2) := H
     have A12 := Aside0.mk A120
     clear A120
     simp only [Option.some.injEq, Prod.mk.injEq] at H
     obtain ⟨rfl, rfl⟩ := H
     go_wp2_with (first | ((with_reducible refine gate_callee (f := 24) rfl ?_); refine goesL_ (some 127) rfl rfl Try.func24 (by kernel_rfl) rfl #[.int .u64 (IntKind.u64.wrap (t267 - t268)), .bool a1] rfl (by (try simp only [List.map_toArray, List.map_cons, List.map_nil]); first | done | rfl | (simp only [List.length_drop, List.length_take]; rfl)) ?_; (with_reducible refine (halberdref04_cut.calls (IntKind.u64.wrap (t267 - t268)) a1 t270 _ A12.out).mono ?_); rintro e w' ⟨rfl, ⟨nd, rfl⟩⟩; refine ⟨_, rfl, ?_⟩))
     go_ret2
     exact ⟨by first | rfl | (simp; done) | (simp [*]; done), by repeat (first | exact Drawn0.refl _ | apply Drawn0.step)⟩
    ·rw [if_neg c11] at H
     have c11b0 : (a0 == 16) = false := beq_eq_false_iff_ne.mpr c11
     have c11b1 : (a0 != 16) = true := bne_iff_ne.mpr c11
     by_cases c13 : a0 = 32
     ·rw [if_pos c13] at H
      have c13b0 : (a0 == 32) = true := beq_iff_eq.mpr c13
      have c13b1 : (a0 != 32) = false := bne_eq_false_iff_eq.mpr c13
      clear c13
      replace H := Option.bind_eq_some_iff.mp H
      obtain ⟨t271, A140, H⟩ := H
      replace H : (some (t271, true)) = some (r1, r2) := H
      have A14 := Aside0.mk A140
      clear A140
      simp only [Option.some.injEq, Prod.mk.injEq] at H
      obtain ⟨rfl, rfl⟩ := H
      go_wp2_with (first | ((with_reducible refine gate_callee (f := 24) rfl ?_); refine goesL_ (some 127) rfl rfl Try.func24 (by kernel_rfl) rfl #[.int .u64 (IntKind.u64.wrap (t267 * t268)), .bool a1] rfl (by (try simp only [List.map_toArray, List.map_cons, List.map_nil]); first | done | rfl | (simp only [List.length_drop, List.length_take]; rfl)) ?_; (with_reducible refine (halberdref04_cut.calls (IntKind.u64.wrap (t267 * t268)) a1 t271 _ A14.out).mono ?_); rintro e w' ⟨rfl, ⟨nd, rfl⟩⟩; refine ⟨_, rfl, ?_⟩))
      go_ret2
      exact ⟨by first | rfl | (simp; done) | (simp [*]; done), by repeat (first | exact Drawn0.refl _ | apply Drawn0.step)⟩
     ·rw [if_neg c13] at H
      have c13b0 : (a0 == 32) = false := beq_eq_false_iff_ne.mpr c13
      have c13b1 : (a0 != 32) = true := bne_iff_ne.mpr c13
      by_cases c15 : a0 = 48
      ·rw [if_pos c15] at H
       have c15b0 : (a0 == 48) = true := beq_iff_eq.mpr c15
       have c15b1 : (a0 != 48) = false := bne_eq_false_iff_eq.mpr c15
       clear c15
       by_cases c16 : t268 > 0
       ·rw [if_pos c16] at H
        have c16b0 : decide (0 < t268) = true := decide_eq_true c16
        clear c16
        by_cases c17 : t268 = 0
        ·rw [if_pos c17] at H
         exact absurd H (by simp)
        ·rw [if_neg c17] at H
         have c17b0 : (t268 == 0) = false := beq_eq_false_iff_ne.mpr c17
         have c17b1 : (t268 != 0) = true := bne_iff_ne.mpr c17
         replace H := Option.bind_eq_some_iff.mp H
         obtain ⟨t272, A180, H⟩ := H
         replace H : (some (t272, true)) = some (r1, r2) := H
         have A18 := Aside0.mk A180
         clear A180
         simp only [Option.some.injEq, Prod.mk.injEq] at H
         obtain ⟨rfl, rfl⟩ := H
         go_wp2_with (first | ((with_reducible refine gate_callee (f := 24) rfl ?_); refine goesL_ (some 127) rfl rfl Try.func24 (by kernel_rfl) rfl #[.int .u64 (IntKind.u64.wrap (Int.tdiv t267 t268)), .bool a1] rfl (by (try simp only [List.map_toArray, List.map_cons, List.map_nil]); first | done | rfl | (simp only [List.length_drop, List.length_take]; rfl)) ?_; (with_reducible refine (halberdref04_cut.calls (IntKind.u64.wrap (Int.tdiv t267 t268)) a1 t272 _ A18.out).mono ?_); rintro e w' ⟨rfl, ⟨nd, rfl⟩⟩; refine ⟨_, rfl, ?_⟩))
         go_ret2
         exact ⟨by first | rfl | (simp; done) | (simp [*]; done), by repeat (first | exact Drawn0.refl _ | apply Drawn0.step)⟩
       ·rw [if_neg c16] at H
        have c16b0 : decide (0 < t268) = false := decide_eq_false c16
        clear c16
        replace H := Option.bind_eq_some_iff.mp H
        obtain ⟨t273, A190, H⟩ := H
        replace H : (some (t273, true)) = some (r1, r2) := H
        have A19 := Aside0.mk A190
        clear A190
        simp only [Option.some.injEq, Prod.mk.injEq] at H
        obtain ⟨rfl, rfl⟩ := H
        go_wp2_with (first | ((with_reducible refine gate_callee (f := 24) rfl ?_); refine goesL_ (some 127) rfl rfl Try.func24 (by kernel_rfl) rfl #[.int .u64 0, .bool a1] rfl (by (try simp only [List.map_toArray, List.map_cons, List.map_nil]); first | done | rfl | (simp only [List.length_drop, List.length_take]; rfl)) ?_; (with_reducible refine (halberdref04_cut.calls 0 a1 t273 _ A19.out).mono ?_); rintro e w' ⟨rfl, ⟨nd, rfl⟩⟩; refine ⟨_, rfl, ?_⟩))
        go_ret2
        exact ⟨by first | rfl | (simp; done) | (simp [*]; done), by repeat (first | exact Drawn0.refl _ | apply Drawn0.step)⟩
      ·rw [if_neg c15] at H
       have c15b0 : (a0 == 48) = false := beq_eq_false_iff_ne.mpr c15
       have c15b1 : (a0 != 48) = true := bne_iff_ne.mpr c15
       by_cases c20 : a0 = 64
       ·rw [if_pos c20] at H
        have c20b0 : (a0 == 64) = true := beq_iff_eq.mpr c20
        have c20b1 : (a0 != 64) = false := bne_eq_false_iff_eq.mpr c20
        clear c20
        replace H := Option.bind_eq_some_iff.mp H
        obtain ⟨t274, A210, H⟩ := H
        replace H : (some (t274, true)) = some (r1, r2) := H
        have A21 := Aside0.mk A210
        clear A210
        simp only [Option.some.injEq, Prod.mk.injEq] at H
        obtain ⟨rfl, rfl⟩ := H
        go_wp2_with (first | ((with_reducible refine gate_callee (f := 24) rfl ?_); refine goesL_ (some 127) rfl rfl Try.func24 (by kernel_rfl) rfl #[.int .u64 (Go.bits .or .u64 t267 t268), .bool a1] rfl (by (try simp only [List.map_toArray, List.map_cons, List.map_nil]); first | done | rfl | (simp only [List.length_drop, List.length_take]; rfl)) ?_; (with_reducible refine (halberdref04_cut.calls (Go.bits .or .u64 t267 t268) a1 t274 _ A21.out).mono ?_); rintro e w' ⟨rfl, ⟨nd, rfl⟩⟩; refine ⟨_, rfl, ?_⟩))
        go_ret2
        exact ⟨by first | rfl | (simp; done) | (simp [*]; done), by repeat (first | exact Drawn0.refl _ | apply Drawn0.step)⟩
       ·rw [if_neg c20] at H
        have c20b0 : (a0 == 64) = false := beq_eq_false_iff_ne.mpr c20
        have c20b1 : (a0 != 64) = true := bne_iff_ne.mpr c20
        by_cases c22 : a0 = 80
        ·rw [if_pos c22] at H
         have c22b0 : (a0 == 80) = true := beq_iff_eq.mpr c22
         have c22b1 : (a0 != 80) = false := bne_eq_false_iff_eq.mpr c22
         clear c22
         replace H := Option.bind_eq_some_iff.mp H
         obtain ⟨t275, A230, H⟩ := H
         replace H : (some (t275, true)) = some (r1, r2) := H
         have A23 := Aside0.mk A230
         clear A230
         simp only [Option.some.injEq, Prod.mk.injEq] at H
         obtain ⟨rfl, rfl⟩ := H
         go_wp2_with (first | ((with_reducible refine gate_callee (f := 24) rfl ?_); refine goesL_ (some 127) rfl rfl Try.func24 (by kernel_rfl) rfl #[.int .u64 (Go.bits .and .u64 t267 t268), .bool a1] rfl (by (try simp only [List.map_toArray, List.map_cons, List.map_nil]); first | done | rfl | (simp only [List.length_drop, List.length_take]; rfl)) ?_; (with_reducible refine (halberdref04_cut.calls (Go.bits .and .u64 t267 t268) a1 t275 _ A23.out).mono ?_); rintro e w' ⟨rfl, ⟨nd, rfl⟩⟩; refine ⟨_, rfl, ?_⟩))
         go_ret2
         exact ⟨by first | rfl | (simp; done) | (simp [*]; done), by repeat (first | exact Drawn0.refl _ | apply Drawn0.step)⟩
        ·rw [if_neg c22] at H
         have c22b0 : (a0 == 80) = false := beq_eq_false_iff_ne.mpr c22
         have c22b1 : (a0 != 80) = true := bne_iff_ne.mpr c22
         by_cases c24 : a0 = 96
         ·rw [if_pos c24] at H
          have c24b0 : (a0 == 96) = true := beq_iff_eq.mpr c24
          have c24b1 : (a0 != 96) = false := bne_eq_false_iff_eq.mpr c24
          clear c24
          have H' := Aside0.mk H
          clear H
          go_wp2
          go_loopg [11, 12] kj6 (fun kq v11 v12 w' => ∃ (x11_2 : Int) (x12_2 : Int), v11 = .int .u64 x11_2 ∧ v12 = .int .u64 x12_2 ∧ Aside0 (halberdref04_Do.l0 kq a1 x10_6 x11_2 x12_2 = some (r1, r2)) ∧ Aside0 (kq ≤ kj6) ∧ Drawn0 w w')
          case atStart => exact ⟨(t267), (0), (by first | rfl | (simp; done) | (simp [*]; done)), (by first | rfl | (simp; done) | (simp [*]; done)), H', ⟨Nat.le_refl _⟩, by repeat (first | exact Drawn0.refl _ | apply Drawn0.step)⟩
          case round =>
           clear H'
           try clear c1
           try clear c2
           try clear p2
           try clear c6
           try clear c8
           try clear c9
           try clear c9b0
           try clear c9b1
           try clear c10
           try clear c11
           try clear c11b0
           try clear c11b1
           try clear c13
           try clear c13b0
           try clear c13b1
           try clear c15
           try clear c15b0
           try clear c15b1
           try clear c16
           try clear c16b0
           try clear c17
           try clear c17b0
           try clear c17b1
           try clear c20
           try clear c20b0
           try clear c20b1
           try clear c22
           try clear c22b0
           try clear c22b1
           try clear c24
           try clear c24b0
           try clear c24b1
           try clear p2
           obtain ⟨x11_2, x12_2, rfl, rfl, HA, HK2, ⟨m2, rfl⟩⟩ := hrel
           cases gk with
           | zero => exact absurd HA.out (by simp [halberdref04_Do.l0])
           | succ k2 =>
            have H := HA.out
            clear HA
            simp only [halberdref04_Do.l0] at H
            by_cases c25 : x12_2 < x10_6
            ·rw [if_pos c25] at H
             have c25b0 : decide (x12_2 < x10_6) = true := decide_eq_true c25
             clear c25
             have H' := Aside0.mk H
             clear H
             go_wp2
             go_roundg k2
             case measure => have := HJ6.out; have := HK2.out; omega
             case rel => exact ⟨(IntKind.u64.wrap (2 * x11_2)), (IntKind.u64.wrap (x12_2 + 1)), (by first | rfl | (simp; done) | (simp [*]; done)), (by first | rfl | (simp; done) | (simp [*]; done)), H', ⟨by have := HJ6.out; have := HK2.out; omega⟩, by repeat (first | exact Drawn0.refl _ | apply Drawn0.step)⟩
            ·rw [if_neg c25] at H
             have c25b0 : decide (x12_2 < x10_6) = false := decide_eq_false c25
             clear c25
             replace H := Option.bind_eq_some_iff.mp H
             obtain ⟨t276, A260, H⟩ := H
             replace H : (some (t276, true)) = some (r1, r2) := H
             have A26 := Aside0.mk A260
             clear A260
             simp only [Option.some.injEq, Prod.mk.injEq] at H
             obtain ⟨rfl, rfl⟩ := H
             go_wp2_with (first | ((with_reducible refine gate_callee (f := 24) rfl ?_); refine goesL_ (some 127) rfl rfl Try.func24 (by kernel_rfl) rfl #[.int .u64 x11_2, .bool a1] rfl (by (try simp only [List.map_toArray, List.map_cons, List.map_nil]); first | done | rfl | (simp only [List.length_drop, List.length_take]; rfl)) ?_; (with_reducible refine (halberdref04_cut.calls x11_2 a1 t276 _ A26.out).mono ?_); rintro e w' ⟨rfl, ⟨nd, rfl⟩⟩; refine ⟨_, rfl, ?_⟩))
             go_ret2
             exact ⟨by first | rfl | (simp; done) | (simp [*]; done), by repeat (first | exact Drawn0.refl _ | apply Drawn0.step)⟩
         ·rw [if_neg c24] at H
          have c24b0 : (a0 == 96) = false := beq_eq_false_iff_ne.mpr c24
          have c24b1 : (a0 != 96) = true := bne_iff_ne.mpr c24
          by_cases c27 : a0 = 112
          ·rw [if_pos c27] at H
           have c27b0 : (a0 == 112) = true := beq_iff_eq.mpr c27
           have c27b1 : (a0 != 112) = false := bne_eq_false_iff_eq.mpr c27
           clear c27
           have H' := Aside0.mk H
           clear H
           go_wp2
           go_loopg [11, 13] kj6 (fun kq v11 v13 w' => ∃ (x11_2 : Int) (x13_2 : Int), v11 = .int .u64 x11_2 ∧ v13 = .int .u64 x13_2 ∧ Aside0 (halberdref04_Do.l1 kq a1 x10_6 x11_2 x13_2 = some (r1, r2)) ∧ Aside0 (kq ≤ kj6) ∧ Drawn0 w w')
           case atStart => exact ⟨(t267), (0), (by first | rfl | (simp; done) | (simp [*]; done)), (by first | rfl | (simp; done) | (simp [*]; done)), H', ⟨Nat.le_refl _⟩, by repeat (first | exact Drawn0.refl _ | apply Drawn0.step)⟩
           case round =>
            clear H'
            try clear c1
            try clear c2
            try clear p2
            try clear c6
            try clear c8
            try clear c9
            try clear c9b0
            try clear c9b1
            try clear c10
            try clear c11
            try clear c11b0
            try clear c11b1
            try clear c13
            try clear c13b0
            try clear c13b1
            try clear c15
            try clear c15b0
            try clear c15b1
            try clear c16
            try clear c16b0
            try clear c17
            try clear c17b0
            try clear c17b1
            try clear c20
            try clear c20b0
            try clear c20b1
            try clear c22
            try clear c22b0
            try clear c22b1
            try clear c24
            try clear c24b0
            try clear c24b1
            try clear c25
            try clear c25b0
            try clear c27
            try clear c27b0
            try clear c27b1
            try clear p2
            obtain ⟨x11_2, x13_2, rfl, rfl, HA, HK2, ⟨m2, rfl⟩⟩ := hrel
            cases gk with
            | zero => exact absurd HA.out (by simp [halberdref04_Do.l1])
            | succ k2 =>
             have H := HA.out
             clear HA
             simp only [halberdref04_Do.l1] at H
             by_cases c28 : x13_2 < x10_6
             ·rw [if_pos c28] at H
              have c28b0 : decide (x13_2 < x10_6) = true := decide_eq_true c28
              clear c28
              have H' := Aside0.mk H
              clear H
              go_wp2
              go_roundg k2
              case measure => have := HJ6.out; have := HK2.out; omega
              case rel => exact ⟨(IntKind.u64.wrap (Int.tdiv x11_2 2)), (IntKind.u64.wrap (x13_2 + 1)), (by first | rfl | (simp; done) | (simp [*]; done)), (by first | rfl | (simp; done) | (simp [*]; done)), H', ⟨by have := HJ6.out; have := HK2.out; omega⟩, by repeat (first | exact Drawn0.refl _ | apply Drawn0.step)⟩
             ·rw [if_neg c28] at H
              have c28b0 : decide (x13_2 < x10_6) = false := decide_eq_false c28
              clear c28
              replace H := Option.bind_eq_some_iff.mp H
              obtain ⟨t277, A290, H⟩ := H
              replace H : (some (t277, true)) = some (r1, r2) := H
              have A29 := Aside0.mk A290
              clear A290
              simp only [Option.some.injEq, Prod.mk.injEq] at H
              obtain ⟨rfl, rfl⟩ := H
              go_wp2_with (first | ((with_reducible refine gate_callee (f := 24) rfl ?_); refine goesL_ (some 127) rfl rfl Try.func24 (by kernel_rfl) rfl #[.int .u64 x11_2, .bool a1] rfl (by (try simp only [List.map_toArray, List.map_cons, List.map_nil]); first | done | rfl | (simp only [List.length_drop, List.length_take]; rfl)) ?_; (with_reducible refine (halberdref04_cut.calls x11_2 a1 t277 _ A29.out).mono ?_); rintro e w' ⟨rfl, ⟨nd, rfl⟩⟩; refine ⟨_, rfl, ?_⟩))
              go_ret2
              exact ⟨by first | rfl | (simp; done) | (simp [*]; done), by repeat (first | exact Drawn0.refl _ | apply Drawn0.step)⟩
          ·rw [if_neg c27] at H
           have c27b0 : (a0 == 112) = false := beq_eq_false_iff_ne.mpr c27
           have c27b1 : (a0 != 112) = true := bne_iff_ne.mpr c27
           by_cases c30 : a0 = 128
           ·rw [if_pos c30] at H
            have c30b0 : (a0 == 128) = true := beq_iff_eq.mpr c30
            have c30b1 : (a0 != 128) = false := bne_eq_false_iff_eq.mpr c30
            clear c30
            replace H := Option.bind_eq_some_iff.mp H
            obtain ⟨t278, A310, H⟩ := H
            replace H : (some (t278, true)) = some (r1, r2) := H
            have A31 := Aside0.mk A310
            clear A310
            simp only [Option.some.injEq, Prod.mk.injEq] at H
            obtain ⟨rfl, rfl⟩ := H
            go_wp2_with (first | ((with_reducible refine gate_callee (f := 24) rfl ?_); refine goesL_ (some 127) rfl rfl Try.func24 (by kernel_rfl) rfl #[.int .u64 (IntKind.u64.wrap (-t267)), .bool a1] rfl (by (try simp only [List.map_toArray, List.map_cons, List.map_nil]); first | done | rfl | (simp only [List.length_drop, List.length_take]; rfl)) ?_; (with_reducible refine (halberdref04_cut.calls (IntKind.u64.wrap (-t267)) a1 t278 _ A31.out).mono ?_); rintro e w' ⟨rfl, ⟨nd, rfl⟩⟩; refine ⟨_, rfl, ?_⟩))
            go_ret2
            exact ⟨by first | rfl | (simp; done) | (simp [*]; done), by repeat (first | exact Drawn0.refl _ | apply Drawn0.step)⟩
           ·rw [if_neg c30] at H
            have c30b0 : (a0 == 128) = false := beq_eq_false_iff_ne.mpr c30
            have c30b1 : (a0 != 128) = true := bne_iff_ne.mpr c30
            by_cases c32 : a0 = 144
            ·rw [if_pos c32] at H
             have c32b0 : (a0 == 144) = true := beq_iff_eq.mpr c32
             have c32b1 : (a0 != 144) = false := bne_eq_false_iff_eq.mpr c32
             clear c32
             by_cases c33 : t268 > 0
             ·rw [if_pos c33] at H
              have c33b0 : decide (0 < t268) = true := decide_eq_true c33
              clear c33
              by_cases c34 : t268 = 0
              ·rw [if_pos c34] at H
               exact absurd H (by simp)
              ·rw [if_neg c34] at H
               have c34b0 : (t268 == 0) = false := beq_eq_false_iff_ne.mpr c34
               have c34b1 : (t268 != 0) = true := bne_iff_ne.mpr c34
               replace H := Option.bind_eq_some_iff.mp H
               obtain ⟨t279, A350, H⟩ := H
               replace H : (some (t279, true)) = some (r1, r2) := H
               have A35 := Aside0.mk A350
               clear A350
               simp only [Option.some.injEq, Prod.mk.injEq] at H
               obtain ⟨rfl, rfl⟩ := H
               go_wp2_with (first | ((with_reducible refine gate_callee (f := 24) rfl ?_); refine goesL_ (some 127) rfl rfl Try.func24 (by kernel_rfl) rfl #[.int .u64 (Int.tmod t267 t268), .bool a1] rfl (by (try simp only [List.map_toArray, List.map_cons, List.map_nil]); first | done | rfl | (simp only [List.length_drop, List.length_take]; rfl)) ?_; (with_reducible refine (halberdref04_cut.calls (Int.tmod t267 t268) a1 t279 _ A35.out).mono ?_); rintro e w' ⟨rfl, ⟨nd, rfl⟩⟩; refine ⟨_, rfl, ?_⟩))
               go_ret2
               exact ⟨by first | rfl | (simp; done) | (simp [*]; done), by repeat (first | exact Drawn0.refl _ | apply Drawn0.step)⟩
             ·rw [if_neg c33] at H
              have c33b0 : decide (0 < t268) = false := decide_eq_false c33
              clear c33
              replace H := Option.bind_eq_some_iff.mp H
              obtain ⟨t280, A360, H⟩ := H
              replace H : (some (t280, true)) = some (r1, r2) := H
              have A36 := Aside0.mk A360
              clear A360
              simp only [Option.some.injEq, Prod.mk.injEq] at H
              obtain ⟨rfl, rfl⟩ := H
              go_wp2_with (first | ((with_reducible refine gate_callee (f := 24) rfl ?_); refine goesL_ (some 127) rfl rfl Try.func24 (by kernel_rfl) rfl #[.int .u64 t267, .bool a1] rfl (by (try simp only [List.map_toArray, List.map_cons, List.map_nil]); first | done | rfl | (simp only [List.length_drop, List.length_take]; rfl)) ?_; (with_reducible refine (halberdref04_cut.calls t267 a1 t280 _ A36.out).mono ?_); rintro e w' ⟨rfl, ⟨nd, rfl⟩⟩; refine ⟨_, rfl, ?_⟩))
              go_ret2
              exact ⟨by first | rfl | (simp; done) | (simp [*]; done), by repeat (first | exact Drawn0.refl _ | apply Drawn0.step)⟩
            ·rw [if_neg c32] at H
             have c32b0 : (a0 == 144) = false := beq_eq_false_iff_ne.mpr c32
             have c32b1 : (a0 != 144) = true := bne_iff_ne.mpr c32
             by_cases c37 : a0 = 160
             ·rw [if_pos c37] at H
              have c37b0 : (a0 == 160) = true := beq_iff_eq.mpr c37
              have c37b1 : (a0 != 160) = false := bne_eq_false_iff_eq.mpr c37
              clear c37
              replace H := Option.bind_eq_some_iff.mp H
              obtain ⟨t281, A380, H⟩ := H
              replace H : (some (t281, true)) = some (r1, r2) := H
              have A38 := Aside0.mk A380
              clear A380
              simp only [Option.some.injEq, Prod.mk.injEq] at H
              obtain ⟨rfl, rfl⟩ := H
              go_wp2_with (first | ((with_reducible refine gate_callee (f := 24) rfl ?_); refine goesL_ (some 127) rfl rfl Try.func24 (by kernel_rfl) rfl #[.int .u64 (Go.bits .xor .u64 t267 t268), .bool a1] rfl (by (try simp only [List.map_toArray, List.map_cons, List.map_nil]); first | done | rfl | (simp only [List.length_drop, List.length_take]; rfl)) ?_; (with_reducible refine (halberdref04_cut.calls (Go.bits .xor .u64 t267 t268) a1 t281 _ A38.out).mono ?_); rintro e w' ⟨rfl, ⟨nd, rfl⟩⟩; refine ⟨_, rfl, ?_⟩))
              go_ret2
              exact ⟨by first | rfl | (simp; done) | (simp [*]; done), by repeat (first | exact Drawn0.refl _ | apply Drawn0.step)⟩
             ·rw [if_neg c37] at H
              have c37b0 : (a0 == 160) = false := beq_eq_false_iff_ne.mpr c37
              have c37b1 : (a0 != 160) = true := bne_iff_ne.mpr c37
              by_cases c39 : a0 = 176
              ·rw [if_pos c39] at H
               have c39b0 : (a0 == 176) = true := beq_iff_eq.mpr c39
               have c39b1 : (a0 != 176) = false := bne_eq_false_iff_eq.mpr c39
               clear c39
               replace H := Option.bind_eq_some_iff.mp H
               obtain ⟨t282, A400, H⟩ := H
               replace H : (some (t282, true)) = some (r1, r2) := H
               have A40 := Aside0.mk A400
               clear A400
               simp only [Option.some.injEq, Prod.mk.injEq] at H
               obtain ⟨rfl, rfl⟩ := H
               go_wp2_with (first | ((with_reducible refine gate_callee (f := 24) rfl ?_); refine goesL_ (some 127) rfl rfl Try.func24 (by kernel_rfl) rfl #[.int .u64 t268, .bool a1] rfl (by (try simp only [List.map_toArray, List.map_cons, List.map_nil]); first | done | rfl | (simp only [List.length_drop, List.length_take]; rfl)) ?_; (with_reducible refine (halberdref04_cut.calls t268 a1 t282 _ A40.out).mono ?_); rintro e w' ⟨rfl, ⟨nd, rfl⟩⟩; refine ⟨_, rfl, ?_⟩))
               go_ret2
               exact ⟨by first | rfl | (simp; done) | (simp [*]; done), by repeat (first | exact Drawn0.refl _ | apply Drawn0.step)⟩
              ·rw [if_neg c39] at H
               have c39b0 : (a0 == 176) = false := beq_eq_false_iff_ne.mpr c39
               have c39b1 : (a0 != 176) = true := bne_iff_ne.mpr c39
               by_cases c41 : a0 = 192
               ·rw [if_pos c41] at H
                have c41b0 : (a0 == 192) = true := beq_iff_eq.mpr c41
                have c41b1 : (a0 != 192) = false := bne_eq_false_iff_eq.mpr c41
                clear c41
                replace H := Option.bind_eq_some_iff.mp H
                obtain ⟨t283, A420, H⟩ := H
                replace H : (halberdref04_Do.l2 kj6 a1 x10_6 t283 0) = some (r1, r2) := H
                have A42 := Aside0.mk A420
                clear A420
                have H' := Aside0.mk H
                clear H
                go_wp2_with (first | ((with_reducible refine gate_callee (f := 25) rfl ?_); refine goesL_ (some 105) rfl rfl Try.func25 (by kernel_rfl) rfl #[.int .u64 t267, .bool a1] rfl (by (try simp only [List.map_toArray, List.map_cons, List.map_nil]); first | done | rfl | (simp only [List.length_drop, List.length_take]; rfl)) ?_; (with_reducible refine (halberdref04_Signed.calls kj6 t267 a1 t283 _ A42.out).mono ?_); rintro e w' ⟨rfl, ⟨nd, rfl⟩⟩; refine ⟨_, rfl, ?_⟩))
                go_loopg [14, 15] kj6 (fun kq v14 v15 w' => ∃ (x14_2 : Int) (x15_2 : Int), v14 = .int .i64 x14_2 ∧ v15 = .int .u64 x15_2 ∧ Aside0 (halberdref04_Do.l2 kq a1 x10_6 x14_2 x15_2 = some (r1, r2)) ∧ Aside0 (kq ≤ kj6) ∧ Drawn0 w w')
                case atStart => exact ⟨(t283), (0), (by first | rfl | (simp; done) | (simp [*]; done)), (by first | rfl | (simp; done) | (simp [*]; done)), H', ⟨Nat.le_refl _⟩, by repeat (first | exact Drawn0.refl _ | apply Drawn0.step)⟩
                case round =>
                 clear H'
                 try clear c1
                 try clear c2
                 try clear p2
                 try clear c3
                 try clear c4
                 try clear c6
                 try clear c8
                 try clear c9
                 try clear c9b0
                 try clear c9b1
                 try clear c10
                 try clear c11
                 try clear c11b0
                 try clear c11b1
                 try clear c13
                 try clear c13b0
                 try clear c13b1
                 try clear c15
                 try clear c15b0
                 try clear c15b1
                 try clear c16
                 try clear c16b0
                 try clear c17
                 try clear c17b0
                 try clear c17b1
                 try clear c20
                 try clear c20b0
                 try clear c20b1
                 try clear c22
                 try clear c22b0
                 try clear c22b1
                 try clear c24
                 try clear c24b0
                 try clear c24b1
                 try clear c25
                 try clear c25b0
                 try clear c27
                 try clear c27b0
                 try clear c27b1
                 try clear c28
                 try clear c28b0
                 try clear c30
                 try clear c30b0
                 try clear c30b1
                 try clear c32
                 try clear c32b0
                 try clear c32b1
                 try clear c33
                 try clear c33b0
                 try clear c34
                 try clear c34b0
                 try clear c34b1
                 try clear c37
                 try clear c37b0
                 try clear c37b1
                 try clear c39
                 try clear c39b0
                 try clear c39b1
                 try clear c41
                 try clear c41b0
                 try clear c41b1
                 try clear p2
                 obtain ⟨x14_2, x15_2, rfl, rfl, HA, HK2, ⟨m2, rfl⟩⟩ := hrel
                 cases gk with
                 | zero => exact absurd HA.out (by simp [halberdref04_Do.l2])
                 | succ k2 =>
                  have H := HA.out
                  clear HA
                  simp only [halberdref04_Do.l2] at H
                  by_cases c43 : x15_2 < x10_6
                  ·rw [if_pos c43] at H
                   have c43b0 : decide (x15_2 < x10_6) = true := decide_eq_true c43
                   clear c43
                   by_cases c44 : x14_2 < 0
                   ·rw [if_pos c44] at H
                    have c44b0 : decide (x14_2 < 0) = true := decide_eq_true c44
                    clear c44
                    by_cases c45 : (Int.tmod x14_2 2) = 0
                    ·rw [if_pos c45] at H
                     have c45b0 : ((Int.tmod x14_2 2) == 0) = true := beq_iff_eq.mpr c45
                     have c45b1 : ((Int.tmod x14_2 2) != 0) = false := bne_eq_false_iff_eq.mpr c45
                     clear c45
                     have H' := Aside0.mk H
                     clear H
                     go_wp2
                     go_roundg k2
                     case measure => have := HJ6.out; have := HK2.out; omega
                     case rel => exact ⟨(wrap64 (Int.tdiv x14_2 2)), (IntKind.u64.wrap (x15_2 + 1)), (by first | rfl | (simp; done) | (simp [*]; done)), (by first | rfl | (simp; done) | (simp [*]; done)), H', ⟨by have := HJ6.out; have := HK2.out; omega⟩, by repeat (first | exact Drawn0.refl _ | apply Drawn0.step)⟩
                    ·rw [if_neg c45] at H
                     have c45b0 : ((Int.tmod x14_2 2) == 0) = false := beq_eq_false_iff_ne.mpr c45
                     have c45b1 : ((Int.tmod x14_2 2) != 0) = true := bne_iff_ne.mpr c45
                     have H' := Aside0.mk H
                     clear H
                     go_wp2
                     go_roundg k2
                     case measure => have := HJ6.out; have := HK2.out; omega
                     case rel => exact ⟨(wrap64 ((wrap64 (Int.tdiv x14_2 2)) - 1)), (IntKind.u64.wrap (x15_2 + 1)), (by first | rfl | (simp; done) | (simp [*]; done)), (by first | rfl | (simp; done) | (simp [*]; done)), H', ⟨by have := HJ6.out; have := HK2.out; omega⟩, by repeat (first | exact Drawn0.refl _ | apply Drawn0.step)⟩
                   ·rw [if_neg c44] at H
                    have c44b0 : decide (x14_2 < 0) = false := decide_eq_false c44
                    clear c44
                    have H' := Aside0.mk H
                    clear H
                    go_wp2
                    go_roundg k2
                    case measure => have := HJ6.out; have := HK2.out; omega
                    case rel => exact ⟨(wrap64 (Int.tdiv x14_2 2)), (IntKind.u64.wrap (x15_2 + 1)), (by first | rfl | (simp; done) | (simp [*]; done)), (by first | rfl | (simp; done) | (simp [*]; done)), H', ⟨by have := HJ6.out; have := HK2.out; omega⟩, by repeat (first | exact Drawn0.refl _ | apply Drawn0.step)⟩
                  ·rw [if_neg c43] at H
                   have c43b0 : decide (x15_2 < x10_6) = false := decide_eq_false c43
                   clear c43
                   replace H := Option.bind_eq_some_iff.mp H
                   obtain ⟨t284, A460, H⟩ := H
                   replace H : (some (t284, true)) = some (r1, r2) := H
                   have A46 := Aside0.mk A460
                   clear A460
                   simp only [Option.some.injEq, Prod.mk.injEq] at H
                   obtain ⟨rfl, rfl⟩ := H
                   go_wp2_with (first | ((with_reducible refine gate_callee (f := 24) rfl ?_); refine goesL_ (some 127) rfl rfl Try.func24 (by kernel_rfl) rfl #[.int .u64 (IntKind.u64.wrap (x14_2)), .bool a1] rfl (by (try simp only [List.map_toArray, List.map_cons, List.map_nil]); first | done | rfl | (simp only [List.length_drop, List.length_take]; rfl)) ?_; (with_reducible refine (halberdref04_cut.calls (IntKind.u64.wrap (x14_2)) a1 t284 _ A46.out).mono ?_); rintro e w' ⟨rfl, ⟨nd, rfl⟩⟩; refine ⟨_, rfl, ?_⟩))
                   go_ret2
                   exact ⟨by first | rfl | (simp; done) | (simp [*]; done), by repeat (first | exact Drawn0.refl _ | apply Drawn0.step)⟩
               ·rw [if_neg c41] at H
                have c41b0 : (a0 == 192) = false := beq_eq_false_iff_ne.mpr c41
                have c41b1 : (a0 != 192) = true := bne_iff_ne.mpr c41
                simp only [Option.some.injEq, Prod.mk.injEq] at H
                obtain ⟨rfl, rfl⟩ := H
                go_wp2
                go_ret2
                exact ⟨by first | rfl | (simp; done) | (simp [*]; done), by repeat (first | exact Drawn0.refl _ | apply Drawn0.step)⟩

end Go.Proofs.Ytkgmdcibjjkhlaa.PXferSound
