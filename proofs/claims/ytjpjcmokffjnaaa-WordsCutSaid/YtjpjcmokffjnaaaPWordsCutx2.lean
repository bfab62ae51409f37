-- PRINTED BY print.sh 35421559b90ae4d0a3588c463048766b98c2df88dd9212a6774a882060cdf62d: not written by this session
import Derived.Test.YtjpjcmokffjnaaaPWordsCutx0
import Derived.Test.YtjpjcmokffjnaaaPWordsCutx1
namespace Go.Proofs.Ytjpjcmokffjnaaa.PWordsCut
open Go.RowKit Go.Proofs.YtjpjcmokffjnaaaW.PrintWords Go.Proofs.YtjpjcmokffjnaaaW.PrintLast Go.Proofs.YtjpjcmokffjnaaaW.PrintMore
attribute [local go_sem] max2_int min2_int max_two min_two max_three min_three max_four min_four   -- for this text's walks alone
set_option linter.unusedVariables false
set_option linter.unusedSimpArgs false

/-! ### halberdref01_Sext: function 25 -/
def halberdref01_Sext.j0 : Nat → Int → Int → Bool → Option (Int)
  | 0, _, _, _ => none
  | k + 1, x0, x1, x12 => if x12 = true then (some x0) else ((halberdref01_Power.f k (wrap64 (8 * x1))).bind fun t120 => (if t120 = 0 then (none) else ((halberdref01_Power.f k (wrap64 ((wrap64 (8 * x1)) - 1))).bind fun t121 => (if (Int.tmod x0 t120) ≥ t121 then ((halberdref01_Power.f k (wrap64 (8 * x1))).bind fun t122 => (some (IntKind.u64.wrap ((Int.tmod x0 t120) - t122)))) else (some (Int.tmod x0 t120))))))
def halberdref01_Sext.f (k : Nat) (a0 : Int) (a1 : Int) : Option (Int) := (halberdref01_Size.f a1).bind fun t119 => (if t119 = true then (halberdref01_Sext.j0 k a0 a1 (a1 == 8)) else (halberdref01_Sext.j0 k a0 a1 true))
theorem halberdref01_Sext.mono_l : ∀ k, (∀ y0 y1 y2, LeO (halberdref01_Sext.j0 k y0 y1 y2) (halberdref01_Sext.j0 (k + 1) y0 y1 y2))
  | 0 => fun _ _ _ r h => by simp [halberdref01_Sext.j0] at h
  | k + 1 => by
    have ih0 := halberdref01_Sext.mono_l k
    · intro y0 y1 y2
      unfold halberdref01_Sext.j0
      repeat' first
      | (with_reducible exact ih0 _ _ _)
      | (with_reducible exact halberdref01_Power.mono _ _)
      | (with_reducible exact LeO.refl _)
      | (with_reducible exact LeO.none _)
      | (with_reducible refine LeO.ite ?_ ?_)
      | (with_reducible refine LeO.bind ?_ (fun _ => ?_))
      | exact ih0 _ _ _
      | exact halberdref01_Power.mono _ _
      | exact LeO.none _
      | refine LeO.ite ?_ ?_
      | refine LeO.bind ?_ (fun _ => ?_)
theorem halberdref01_Sext.mono : ∀ a0 a1 k, LeO (halberdref01_Sext.f k a0 a1) (halberdref01_Sext.f (k + 1) a0 a1) := by
  intro a0 a1 k
  have ih0 := halberdref01_Sext.mono_l k
  unfold halberdref01_Sext.f
  repeat' first
      | (with_reducible exact ih0 _ _ _)
      | (with_reducible exact halberdref01_Power.mono _ _)
      | (with_reducible exact LeO.refl _)
      | (with_reducible exact LeO.none _)
      | (with_reducible refine LeO.ite ?_ ?_)
      | (with_reducible refine LeO.bind ?_ (fun _ => ?_))
      | exact ih0 _ _ _
      | exact halberdref01_Power.mono _ _
      | exact LeO.none _
      | refine LeO.ite ?_ ?_
      | refine LeO.bind ?_ (fun _ => ?_)
set_option maxHeartbeats 8000000 in
set_option maxRecDepth 100000 in
theorem halberdref01_Sext.calls (k : Nat) (a0 : Int) (a1 : Int) (r : Int) (w : World) (h : halberdref01_Sext.f k a0 a1 = some r) :
    Calls Try.prog 25 #[.int .u64 a0, .int .i64 a1] w fun e w' => e = .returned (.int .u64 r) ∧ Drawn0 w w' := by
  have H : ((halberdref01_Size.f a1).bind fun t119 => (if t119 = true then (halberdref01_Sext.j0 k a0 a1 (a1 == 8)) else (halberdref01_Sext.j0 k a0 a1 true))) = some r := h
  clear h
  have HC3 := Aside0.mk H
  clear H
  go_enter Try.func25, Try.ntmps25
  go_upto_region 1 with (fail)
  go_cut [12] (fun v12 wc => ∃ (kq : Nat) (x12_2 : Bool), v12 = .bool x12_2 ∧ Aside0 (halberdref01_Sext.j0 kq a0 a1 x12_2 = some r) ∧ Aside0 (kq ≤ k) ∧ Drawn0 w wc)
  case first =>
    have H := HC3.out
    clear HC3
    replace H := Option.bind_eq_some_iff.mp H
    obtain ⟨t119, A40, H⟩ := H
    replace H : (if t119 = true then (halberdref01_Sext.j0 k a0 a1 (a1 == 8)) else (halberdref01_Sext.j0 k a0 a1 true)) = some r := H
    have A4 := Aside0.mk A40
    clear A40
    by_cases c5 : t119 = true
    · subst c5
      have H1 : (halberdref01_Sext.j0 k a0 a1 (a1 == 8)) = some r := by rw [if_pos rfl] at H; exact H
      clear H
      have H := H1
      clear H1
      have H' := Aside0.mk H
      clear H
      go_wp2_with (first | ((with_reducible refine gate_callee (f := 21) rfl ?_); refine goesL_ (some 7) rfl rfl Try.func21 (by kernel_rfl) rfl #[.int .i64 a1] rfl (by (try simp only [List.map_toArray, List.map_cons, List.map_nil]); first | done | rfl | (simp only [List.length_drop, List.length_take]; rfl)) ?_; (with_reducible refine (halberdref01_Size.calls a1 true _ A4.out).mono ?_); rintro e w' ⟨rfl, ⟨nd, rfl⟩⟩; refine ⟨_, rfl, ?_⟩))
      go_meet
      case rel => exact ⟨_, ((a1 == 8)), (by first | rfl | (simp; done) | (simp [*]; done)), H', ⟨by first | omega | exact Nat.le_refl _⟩, by repeat (first | exact Drawn0.refl _ | apply Drawn0.step)⟩
    · replace c5 := Bool.eq_false_iff.mpr c5
      subst c5
      have H1 : (halberdref01_Sext.j0 k a0 a1 true) = some r := by rw [if_neg (show ¬ (false = true) by decide)] at H; exact H
      clear H
      have H := H1
      clear H1
      have H' := Aside0.mk H
      clear H
      go_wp2_with (first | ((with_reducible refine gate_callee (f := 21) rfl ?_); refine goesL_ (some 7) rfl rfl Try.func21 (by kernel_rfl) rfl #[.int .i64 a1] rfl (by (try simp only [List.map_toArray, List.map_cons, List.map_nil]); first | done | rfl | (simp only [List.length_drop, List.length_take]; rfl)) ?_; (with_reducible refine (halberdref01_Size.calls a1 false _ A4.out).mono ?_); rintro e w' ⟨rfl, ⟨nd, rfl⟩⟩; refine ⟨_, rfl, ?_⟩))
      go_meet
      case rel => exact ⟨_, (true), (by first | rfl | (simp; done) | (simp [*]; done)), H', ⟨by first | omega | exact Nat.le_refl _⟩, by repeat (first | exact Drawn0.refl _ | apply Drawn0.step)⟩
  case rest =>
    clear HC3
    try clear c2
    try clear p2
    try clear c5
    obtain ⟨kq, x12_2, rfl, HA, HJ2, ⟨mc2, rfl⟩⟩ := hcut
    cases kq with
    | zero => exact absurd HA.out (by simp [halberdref01_Sext.j0])
    | succ kj2 =>
      have H := HA.out
      clear HA
      simp only [halberdref01_Sext.j0] at H
      by_cases c6 : x12_2 = true
      · subst c6
        have H1 : (some a0) = some r := by rw [if_pos rfl] at H; exact H
        clear H
        have H := H1
        clear H1
        obtain rfl := Option.some.inj H
        go_wp2
        go_ret
        exact ⟨by first | rfl | (simp; done) | (simp [*]; done), by repeat (first | exact Drawn0.refl _ | apply Drawn0.step)⟩
      · replace c6 := Bool.eq_false_iff.mpr c6
        subst c6
        have H1 : ((halberdref01_Power.f kj2 (wrap64 (8 * a1))).bind fun t120 => (if t120 = 0 then (none) else ((halberdref01_Power.f kj2 (wrap64 ((wrap64 (8 * a1)) - 1))).bind fun t121 => (if (Int.tmod a0 t120) ≥ t121 then ((halberdref01_Power.f kj2 (wrap64 (8 * a1))).bind fun t122 => (some (IntKind.u64.wrap ((Int.tmod a0 t120) - t122)))) else (some (Int.tmod a0 t120)))))) = some r := by rw [if_neg (show ¬ (false = true) by decide)] at H; exact H
        clear H
        have H := H1
        clear H1
        replace H := Option.bind_eq_some_iff.mp H
        obtain ⟨t120, A70, H⟩ := H
        replace H : (if t120 = 0 then (none) else ((halberdref01_Power.f kj2 (wrap64 ((wrap64 (8 * a1)) - 1))).bind fun t121 => (if (Int.tmod a0 t120) ≥ t121 then ((halberdref01_Power.f kj2 (wrap64 (8 * a1))).bind fun t122 => (some (IntKind.u64.wrap ((Int.tmod a0 t120) - t122)))) else (some (Int.tmod a0 t120))))) = some r := H
        have A7 := Aside0.mk A70
        clear A70
        by_cases c8 : t120 = 0
        · rw [if_pos c8] at H
          exact absurd H (by simp)
        · rw [if_neg c8] at H
          have c8b0 : (t120 == 0) = false := beq_eq_false_iff_ne.mpr c8
          have c8b1 : (t120 != 0) = true := bne_iff_ne.mpr c8
          replace H := Option.bind_eq_some_iff.mp H
          obtain ⟨t121, A90, H⟩ := H
          replace H : (if (Int.tmod a0 t120) ≥ t121 then ((halberdref01_Power.f kj2 (wrap64 (8 * a1))).bind fun t122 => (some (IntKind.u64.wrap ((Int.tmod a0 t120) - t122)))) else (some (Int.tmod a0 t120))) = some r := H
          have A9 := Aside0.mk A90
          clear A90
          by_cases c10 : (Int.tmod a0 t120) ≥ t121
          · rw [if_pos c10] at H
            have c10b0 : decide (t121 ≤ (Int.tmod a0 t120)) = true := decide_eq_true c10
            clear c10
            replace H := Option.bind_eq_some_iff.mp H
            obtain ⟨t122, A110, H⟩ := H
            replace H : (some (IntKind.u64.wrap ((Int.tmod a0 t120) - t122))) = some r := H
            have A11 := Aside0.mk A110
            clear A110
            obtain rfl := Option.some.inj H
            go_wp2_with (first | ((with_reducible refine gate_callee (f := 28) rfl ?_); refine goesL_ (some 17) rfl rfl Try.func28 (by kernel_rfl) rfl #[.int .i64 (wrap64 (8 * a1))] rfl (by (try simp only [List.map_toArray, List.map_cons, List.map_nil]); first | done | rfl | (simp only [List.length_drop, List.length_take]; rfl)) ?_; (with_reducible refine (halberdref01_Power.calls kj2 (wrap64 (8 * a1)) t120 _ A7.out).mono ?_); rintro e w' ⟨rfl, ⟨nd, rfl⟩⟩; refine ⟨_, rfl, ?_⟩) | ((with_reducible refine gate_callee (f := 28) rfl ?_); refine goesL_ (some 23) rfl rfl Try.func28 (by kernel_rfl) rfl #[.int .i64 (wrap64 ((wrap64 (8 * a1)) - 1))] rfl (by (try simp only [List.map_toArray, List.map_cons, List.map_nil]); first | done | rfl | (simp only [List.length_drop, List.length_take]; rfl)) ?_; (with_reducible refine (halberdref01_Power.calls kj2 (wrap64 ((wrap64 (8 * a1)) - 1)) t121 _ A9.out).mono ?_); rintro e w' ⟨rfl, ⟨nd, rfl⟩⟩; refine ⟨_, rfl, ?_⟩) | ((with_reducible refine gate_callee (f := 28) rfl ?_); refine goesL_ (some 28) rfl rfl Try.func28 (by kernel_rfl) rfl #[.int .i64 (wrap64 (8 * a1))] rfl (by (try simp only [List.map_toArray, List.map_cons, List.map_nil]); first | done | rfl | (simp only [List.length_drop, List.length_take]; rfl)) ?_; (with_reducible refine (halberdref01_Power.calls kj2 (wrap64 (8 * a1)) t122 _ A11.out).mono ?_); rintro e w' ⟨rfl, ⟨nd, rfl⟩⟩; refine ⟨_, rfl, ?_⟩))
            go_ret
            exact ⟨by first | rfl | (simp; done) | (simp [*]; done), by repeat (first | exact Drawn0.refl _ | apply Drawn0.step)⟩
          · rw [if_neg c10] at H
            have c10b0 : decide (t121 ≤ (Int.tmod a0 t120)) = false := decide_eq_false c10
            clear c10
            obtain rfl := Option.some.inj H
            go_wp2_with (first | ((with_reducible refine gate_callee (f := 28) rfl ?_); refine goesL_ (some 17) rfl rfl Try.func28 (by kernel_rfl) rfl #[.int .i64 (wrap64 (8 * a1))] rfl (by (try simp only [List.map_toArray, List.map_cons, List.map_nil]); first | done | rfl | (simp only [List.length_drop, List.length_take]; rfl)) ?_; (with_reducible refine (halberdref01_Power.calls kj2 (wrap64 (8 * a1)) t120 _ A7.out).mono ?_); rintro e w' ⟨rfl, ⟨nd, rfl⟩⟩; refine ⟨_, rfl, ?_⟩) | ((with_reducible refine gate_callee (f := 28) rfl ?_); refine goesL_ (some 23) rfl rfl Try.func28 (by kernel_rfl) rfl #[.int .i64 (wrap64 ((wrap64 (8 * a1)) - 1))] rfl (by (try simp only [List.map_toArray, List.map_cons, List.map_nil]); first | done | rfl | (simp only [List.length_drop, List.length_take]; rfl)) ?_; (with_reducible refine (halberdref01_Power.calls kj2 (wrap64 ((wrap64 (8 * a1)) - 1)) t121 _ A9.out).mono ?_); rintro e w' ⟨rfl, ⟨nd, rfl⟩⟩; refine ⟨_, rfl, ?_⟩))
            go_ret
            exact ⟨by first | rfl | (simp; done) | (simp [*]; done), by repeat (first | exact Drawn0.refl _ | apply Drawn0.step)⟩

/-! ### halberdref01_Low: function 27 -/
def halberdref01_Low.f (k : Nat) (a0 : Int) : Option (Int) := if a0 < 1 then (some 0) else (if a0 > 63 then (some 18446744073709551615) else ((halberdref01_Power.f k a0).bind fun t123 => (some (IntKind.u64.wrap (t123 - 1)))))
theorem halberdref01_Low.mono : ∀ a0 k, LeO (halberdref01_Low.f k a0) (halberdref01_Low.f (k + 1) a0) := by
  intro a0 k
  unfold halberdref01_Low.f
  repeat' first
      | (with_reducible exact halberdref01_Power.mono _ _)
      | (with_reducible exact LeO.refl _)
      | (with_reducible exact LeO.none _)
      | (with_reducible refine LeO.ite ?_ ?_)
      | (with_reducible refine LeO.bind ?_ (fun _ => ?_))
      | exact halberdref01_Power.mono _ _
      | exact LeO.none _
      | refine LeO.ite ?_ ?_
      | refine LeO.bind ?_ (fun _ => ?_)
set_option maxHeartbeats 8000000 in
set_option maxRecDepth 100000 in
theorem halberdref01_Low.calls (k : Nat) (a0 : Int) (r : Int) (w : World) (h : halberdref01_Low.f k a0 = some r) :
    Calls Try.prog 27 #[.int .i64 a0] w fun e w' => e = .returned (.int .u64 r) ∧ Drawn0 w w' := by
  have H : (if a0 < 1 then (some 0) else (if a0 > 63 then (some 18446744073709551615) else ((halberdref01_Power.f k a0).bind fun t123 => (some (IntKind.u64.wrap (t123 - 1)))))) = some r := h
  clear h
  by_cases c2 : a0 < 1
  · rw [if_pos c2] at H
    have c2b0 : decide (a0 < 1) = true := decide_eq_true c2
    clear c2
    obtain rfl := Option.some.inj H
    go_enter Try.func27, Try.ntmps27
    go_wp2
    go_ret
    exact ⟨by first | rfl | (simp; done) | (simp [*]; done), by repeat (first | exact Drawn0.refl _ | apply Drawn0.step)⟩
  · rw [if_neg c2] at H
    have c2b0 : decide (a0 < 1) = false := decide_eq_false c2
    clear c2
    by_cases c3 : a0 > 63
    · rw [if_pos c3] at H
      have c3b0 : decide (63 < a0) = true := decide_eq_true c3
      clear c3
      obtain rfl := Option.some.inj H
      go_enter Try.func27, Try.ntmps27
      go_wp2
      go_ret
      exact ⟨by first | rfl | (simp; done) | (simp [*]; done), by repeat (first | exact Drawn0.refl _ | apply Drawn0.step)⟩
    · rw [if_neg c3] at H
      have c3b0 : decide (63 < a0) = false := decide_eq_false c3
      clear c3
      replace H := Option.bind_eq_some_iff.mp H
      obtain ⟨t123, A40, H⟩ := H
      replace H : (some (IntKind.u64.wrap (t123 - 1))) = some r := H
      have A4 := Aside0.mk A40
      clear A40
      obtain rfl := Option.some.inj H
      go_enter Try.func27, Try.ntmps27
      go_wp2_with (first | ((with_reducible refine gate_callee (f := 28) rfl ?_); refine goesL_ (some 8) rfl rfl Try.func28 (by kernel_rfl) rfl #[.int .i64 a0] rfl (by (try simp only [List.map_toArray, List.map_cons, List.map_nil]); first | done | rfl | (simp only [List.length_drop, List.length_take]; rfl)) ?_; (with_reducible refine (halberdref01_Power.calls k a0 t123 _ A4.out).mono ?_); rintro e w' ⟨rfl, ⟨nd, rfl⟩⟩; refine ⟨_, rfl, ?_⟩))
      go_ret
      exact ⟨by first | rfl | (simp; done) | (simp [*]; done), by repeat (first | exact Drawn0.refl _ | apply Drawn0.step)⟩

/-! ### halberdlaw01_WordsCut: function 5 -/
def halberdlaw01_WordsCut.f (k : Nat) (a0 : Int) (a1 : Int) : Option (Bool) := (halberdlaw01_alive.f k).bind fun t124 => (if t124 = true then ((words_IsSize.f a1).bind fun t125 => ((halberdref01_Size.f a1).bind fun t126 => (if (t125 == t126) = true then ((words_Zext.f a0 a1).bind fun t127 => ((halberdref01_Zext.f k a0 a1).bind fun t128 => (if t127 = t128 then ((words_Sext.f a0 a1).bind fun t129 => ((halberdref01_Sext.f k a0 a1).bind fun t130 => (if t129 = t130 then ((words_Low.f a1).bind fun t131 => ((halberdref01_Low.f k a1).bind fun t132 => (some (t131 == t132)))) else (some false)))) else (some false)))) else (some false)))) else (some false))
theorem halberdlaw01_WordsCut.mono : ∀ a0 a1 k, LeO (halberdlaw01_WordsCut.f k a0 a1) (halberdlaw01_WordsCut.f (k + 1) a0 a1) := by
  intro a0 a1 k
  unfold halberdlaw01_WordsCut.f
  repeat' first
      | (with_reducible exact halberdlaw01_alive.mono _)
      | (with_reducible exact halberdref01_Low.mono _ _)
      | (with_reducible exact halberdref01_Sext.mono _ _ _)
      | (with_reducible exact halberdref01_Zext.mono _ _ _)
      | (with_reducible exact LeO.refl _)
      | (with_reducible exact LeO.none _)
      | (with_reducible refine LeO.ite ?_ ?_)
      | (with_reducible refine LeO.bind ?_ (fun _ => ?_))
      | exact halberdlaw01_alive.mono _
      | exact halberdref01_Low.mono _ _
      | exact halberdref01_Sext.mono _ _ _
      | exact halberdref01_Zext.mono _ _ _
      | exact LeO.none _
      | refine LeO.ite ?_ ?_
      | refine LeO.bind ?_ (fun _ => ?_)
set_option maxHeartbeats 8000000 in
set_option maxRecDepth 100000 in
theorem halberdlaw01_WordsCut.calls (k : Nat) (a0 : Int) (a1 : Int) (r : Bool) (w : World) (h : halberdlaw01_WordsCut.f k a0 a1 = some r) :
    Calls Try.prog 5 #[.int .u64 a0, .int .i64 a1] w fun e w' => e = .returned (.bool r) ∧ Below w.heap.size w w' := by
  have HB := Aside0.mk (Below.refl w.heap.size w)
  have H : ((halberdlaw01_alive.f k).bind fun t124 => (if t124 = true then ((words_IsSize.f a1).bind fun t125 => ((halberdref01_Size.f a1).bind fun t126 => (if (t125 == t126) = true then ((words_Zext.f a0 a1).bind fun t127 => ((halberdref01_Zext.f k a0 a1).bind fun t128 => (if t127 = t128 then ((words_Sext.f a0 a1).bind fun t129 => ((halberdref01_Sext.f k a0 a1).bind fun t130 => (if t129 = t130 then ((words_Low.f a1).bind fun t131 => ((halberdref01_Low.f k a1).bind fun t132 => (some (t131 == t132)))) else (some false)))) else (some false)))) else (some false)))) else (some false))) = some r := h
  clear h
  replace H := Option.bind_eq_some_iff.mp H
  obtain ⟨t124, A30, H⟩ := H
  replace H : (if t124 = true then ((words_IsSize.f a1).bind fun t125 => ((halberdref01_Size.f a1).bind fun t126 => (if (t125 == t126) = true then ((words_Zext.f a0 a1).bind fun t127 => ((halberdref01_Zext.f k a0 a1).bind fun t128 => (if t127 = t128 then ((words_Sext.f a0 a1).bind fun t129 => ((halberdref01_Sext.f k a0 a1).bind fun t130 => (if t129 = t130 then ((words_Low.f a1).bind fun t131 => ((halberdref01_Low.f k a1).bind fun t132 => (some (t131 == t132)))) else (some false)))) else (some false)))) else (some false)))) else (some false)) = some r := H
  have A3 := Aside0.mk A30
  clear A30
  by_cases c4 : t124 = true
  · subst c4
    have H1 : ((words_IsSize.f a1).bind fun t125 => ((halberdref01_Size.f a1).bind fun t126 => (if (t125 == t126) = true then ((words_Zext.f a0 a1).bind fun t127 => ((halberdref01_Zext.f k a0 a1).bind fun t128 => (if t127 = t128 then ((words_Sext.f a0 a1).bind fun t129 => ((halberdref01_Sext.f k a0 a1).bind fun t130 => (if t129 = t130 then ((words_Low.f a1).bind fun t131 => ((halberdref01_Low.f k a1).bind fun t132 => (some (t131 == t132)))) else (some false)))) else (some false)))) else (some false)))) = some r := by rw [if_pos rfl] at H; exact H
    clear H
    have H := H1
    clear H1
    replace H := Option.bind_eq_some_iff.mp H
    obtain ⟨t125, A50, H⟩ := H
    replace H : ((halberdref01_Size.f a1).bind fun t126 => (if (t125 == t126) = true then ((words_Zext.f a0 a1).bind fun t127 => ((halberdref01_Zext.f k a0 a1).bind fun t128 => (if t127 = t128 then ((words_Sext.f a0 a1).bind fun t129 => ((halberdref01_Sext.f k a0 a1).bind fun t130 => (if t129 = t130 then ((words_Low.f a1).bind fun t131 => ((halberdref01_Low.f k a1).bind fun t132 => (some (t131 == t132)))) else (some false)))) else (some false)))) else (some false))) = some r := H
    have A5 := Aside0.mk A50
    clear A50
    replace H := Option.bind_eq_some_iff.mp H
    obtain ⟨t126, A60, H⟩ := H
    replace H : (if (t125 == t126) = true then ((words_Zext.f a0 a1).bind fun t127 => ((halberdref01_Zext.f k a0 a1).bind fun t128 => (if t127 = t128 then ((words_Sext.f a0 a1).bind fun t129 => ((halberdref01_Sext.f k a0 a1).bind fun t130 => (if t129 = t130 then ((words_Low.f a1).bind fun t131 => ((halberdref01_Low.f k a1).bind fun t132 => (some (t131 == t132)))) else (some false)))) else (some false)))) else (some false)) = some r := H
    have A6 := Aside0.mk A60
    clear A60
    by_cases c7 : (t125 == t126) = true
    · rw [if_pos c7] at H
      have c7b0 : (t125 == t126) = true := c7
      (try (have c7b1 : decide (t125 = t126) = true := by simpa using c7))
      (try (have c7b2 : (t125 == t126) = true := by simpa using c7))
      clear c7
      replace H := Option.bind_eq_some_iff.mp H
      obtain ⟨t127, A80, H⟩ := H
      replace H : ((halberdref01_Zext.f k a0 a1).bind fun t128 => (if t127 = t128 then ((words_Sext.f a0 a1).bind fun t129 => ((halberdref01_Sext.f k a0 a1).bind fun t130 => (if t129 = t130 then ((words_Low.f a1).bind fun t131 => ((halberdref01_Low.f k a1).bind fun t132 => (some (t131 == t132)))) else (some false)))) else (some false))) = some r := H
      have A8 := Aside0.mk A80
      clear A80
      replace H := Option.bind_eq_some_iff.mp H
      obtain ⟨t128, A90, H⟩ := H
      replace H : (if t127 = t128 then ((words_Sext.f a0 a1).bind fun t129 => ((halberdref01_Sext.f k a0 a1).bind fun t130 => (if t129 = t130 then ((words_Low.f a1).bind fun t131 => ((halberdref01_Low.f k a1).bind fun t132 => (some (t131 == t132)))) else (some false)))) else (some false)) = some r := H
      have A9 := Aside0.mk A90
      clear A90
      by_cases c10 : t127 = t128
      · rw [if_pos c10] at H
        have c10b0 : (t127 == t128) = true := beq_iff_eq.mpr c10
        have c10b1 : (t127 != t128) = false := bne_eq_false_iff_eq.mpr c10
        clear c10
        replace H := Option.bind_eq_some_iff.mp H
        obtain ⟨t129, A110, H⟩ := H
        replace H : ((halberdref01_Sext.f k a0 a1).bind fun t130 => (if t129 = t130 then ((words_Low.f a1).bind fun t131 => ((halberdref01_Low.f k a1).bind fun t132 => (some (t131 == t132)))) else (some false))) = some r := H
        have A11 := Aside0.mk A110
        clear A110
        replace H := Option.bind_eq_some_iff.mp H
        obtain ⟨t130, A120, H⟩ := H
        replace H : (if t129 = t130 then ((words_Low.f a1).bind fun t131 => ((halberdref01_Low.f k a1).bind fun t132 => (some (t131 == t132)))) else (some false)) = some r := H
        have A12 := Aside0.mk A120
        clear A120
        by_cases c13 : t129 = t130
        · rw [if_pos c13] at H
          have c13b0 : (t129 == t130) = true := beq_iff_eq.mpr c13
          have c13b1 : (t129 != t130) = false := bne_eq_false_iff_eq.mpr c13
          clear c13
          replace H := Option.bind_eq_some_iff.mp H
          obtain ⟨t131, A140, H⟩ := H
          replace H : ((halberdref01_Low.f k a1).bind fun t132 => (some (t131 == t132))) = some r := H
          have A14 := Aside0.mk A140
          clear A140
          replace H := Option.bind_eq_some_iff.mp H
          obtain ⟨t132, A150, H⟩ := H
          replace H : (some (t131 == t132)) = some r := H
          have A15 := Aside0.mk A150
          clear A150
          obtain rfl := Option.some.inj H
          go_enter Try.func5, Try.ntmps5
          go_wp2_with (first | ((with_reducible refine gate_callee (f := 19) rfl ?_); refine goesL_ (some 5) rfl rfl Try.func19 (by kernel_rfl) rfl #[] rfl (by (try simp only [List.map_toArray, List.map_cons, List.map_nil]); first | done | rfl | (simp only [List.length_drop, List.length_take]; rfl)) ?_; (with_reducible refine (halberdlaw01_alive.calls k  true _ A3.out).mono ?_); rintro e w16 ⟨rfl, hb⟩; refine ⟨_, rfl, ?_⟩; have n0_ := Aside0.mk (below_step (by repeat (first | (with_reducible first | exact HB.out | apply below_alloc | apply pw_below_drewN | apply below_drew1) | exact HB.out)) hb); clear HB; have HB := n0_; clear n0_; (try clear hb); (try clear hb2); (try clear hk); (try clear hi)) | (go_at_call 20; (with_reducible refine (words_IsSize.calls a1 t125 _ A5.out).mono ?_); rintro e w' ⟨rfl, ⟨nd, rfl⟩⟩) | (go_at_call 21; (with_reducible refine (halberdref01_Size.calls a1 t126 _ A6.out).mono ?_); rintro e w' ⟨rfl, ⟨nd, rfl⟩⟩) | (go_at_call 22; (with_reducible refine (words_Zext.calls a0 a1 t127 _ A8.out).mono ?_); rintro e w' ⟨rfl, ⟨nd, rfl⟩⟩) | (go_at_call 23; (with_reducible refine (halberdref01_Zext.calls k a0 a1 t128 _ A9.out).mono ?_); rintro e w' ⟨rfl, ⟨nd, rfl⟩⟩) | (go_at_call 24; (with_reducible refine (words_Sext.calls a0 a1 t129 _ A11.out).mono ?_); rintro e w' ⟨rfl, ⟨nd, rfl⟩⟩) | (go_at_call 25; (with_reducible refine (halberdref01_Sext.calls k a0 a1 t130 _ A12.out).mono ?_); rintro e w' ⟨rfl, ⟨nd, rfl⟩⟩) | (go_at_call 26; (with_reducible refine (words_Low.calls a1 t131 _ A14.out).mono ?_); rintro e w' ⟨rfl, ⟨nd, rfl⟩⟩) | (go_at_call 27; (with_reducible refine (halberdref01_Low.calls k a1 t132 _ A15.out).mono ?_); rintro e w' ⟨rfl, ⟨nd, rfl⟩⟩))
          go_ret
          exact ⟨by first | rfl | (simp [errW_none, errW_some] <;> rfl) | (simp [*, errW_none, errW_some] <;> rfl), by repeat (first | (with_reducible first | exact HB.out | apply below_alloc | apply pw_below_drewN | apply below_drew1) | exact HB.out)⟩
        · rw [if_neg c13] at H
          have c13b0 : (t129 == t130) = false := beq_eq_false_iff_ne.mpr c13
          have c13b1 : (t129 != t130) = true := bne_iff_ne.mpr c13
          obtain rfl := Option.some.inj H
          go_enter Try.func5, Try.ntmps5
          go_wp2_with (first | ((with_reducible refine gate_callee (f := 19) rfl ?_); refine goesL_ (some 5) rfl rfl Try.func19 (by kernel_rfl) rfl #[] rfl (by (try simp only [List.map_toArray, List.map_cons, List.map_nil]); first | done | rfl | (simp only [List.length_drop, List.length_take]; rfl)) ?_; (with_reducible refine (halberdlaw01_alive.calls k  true _ A3.out).mono ?_); rintro e w17 ⟨rfl, hb⟩; refine ⟨_, rfl, ?_⟩; have n0_ := Aside0.mk (below_step (by repeat (first | (with_reducible first | exact HB.out | apply below_alloc | apply pw_below_drewN | apply below_drew1) | exact HB.out)) hb); clear HB; have HB := n0_; clear n0_; (try clear hb); (try clear hb2); (try clear hk); (try clear hi)) | (go_at_call 20; (with_reducible refine (words_IsSize.calls a1 t125 _ A5.out).mono ?_); rintro e w' ⟨rfl, ⟨nd, rfl⟩⟩) | (go_at_call 21; (with_reducible refine (halberdref01_Size.calls a1 t126 _ A6.out).mono ?_); rintro e w' ⟨rfl, ⟨nd, rfl⟩⟩) | (go_at_call 22; (with_reducible refine (words_Zext.calls a0 a1 t127 _ A8.out).mono ?_); rintro e w' ⟨rfl, ⟨nd, rfl⟩⟩) | (go_at_call 23; (with_reducible refine (halberdref01_Zext.calls k a0 a1 t128 _ A9.out).mono ?_); rintro e w' ⟨rfl, ⟨nd, rfl⟩⟩) | (go_at_call 24; (with_reducible refine (words_Sext.calls a0 a1 t129 _ A11.out).mono ?_); rintro e w' ⟨rfl, ⟨nd, rfl⟩⟩) | (go_at_call 25; (with_reducible refine (halberdref01_Sext.calls k a0 a1 t130 _ A12.out).mono ?_); rintro e w' ⟨rfl, ⟨nd, rfl⟩⟩))
          go_ret
          exact ⟨by first | rfl | (simp [errW_none, errW_some] <;> rfl) | (simp [*, errW_none, errW_some] <;> rfl), by repeat (first | (with_reducible first | exact HB.out | apply below_alloc | apply pw_below_drewN | apply below_drew1) | exact HB.out)⟩
      · rw [if_neg c10] at H
        have c10b0 : (t127 == t128) = false := beq_eq_false_iff_ne.mpr c10
        have c10b1 : (t127 != t128) = true := bne_iff_ne.mpr c10
        obtain rfl := Option.some.inj H
        go_enter Try.func5, Try.ntmps5
        go_wp2_with (first | ((with_reducible refine gate_callee (f := 19) rfl ?_); refine goesL_ (some 5) rfl rfl Try.func19 (by kernel_rfl) rfl #[] rfl (by (try simp only [List.map_toArray, List.map_cons, List.map_nil]); first | done | rfl | (simp only [List.length_drop, List.length_take]; rfl)) ?_; (with_reducible refine (halberdlaw01_alive.calls k  true _ A3.out).mono ?_); rintro e w18 ⟨rfl, hb⟩; refine ⟨_, rfl, ?_⟩; have n0_ := Aside0.mk (below_step (by repeat (first | (with_reducible first | exact HB.out | apply below_alloc | apply pw_below_drewN | apply below_drew1) | exact HB.out)) hb); clear HB; have HB := n0_; clear n0_; (try clear hb); (try clear hb2); (try clear hk); (try clear hi)) | (go_at_call 20; (with_reducible refine (words_IsSize.calls a1 t125 _ A5.out).mono ?_); rintro e w' ⟨rfl, ⟨nd, rfl⟩⟩) | (go_at_call 21; (with_reducible refine (halberdref01_Size.calls a1 t126 _ A6.out).mono ?_); rintro e w' ⟨rfl, ⟨nd, rfl⟩⟩) | (go_at_call 22; (with_reducible refine (words_Zext.calls a0 a1 t127 _ A8.out).mono ?_); rintro e w' ⟨rfl, ⟨nd, rfl⟩⟩) | (go_at_call 23; (with_reducible refine (halberdref01_Zext.calls k a0 a1 t128 _ A9.out).mono ?_); rintro e w' ⟨rfl, ⟨nd, rfl⟩⟩))
        go_ret
        exact ⟨by first | rfl | (simp [errW_none, errW_some] <;> rfl) | (simp [*, errW_none, errW_some] <;> rfl), by repeat (first | (with_reducible first | exact HB.out | apply below_alloc | apply pw_below_drewN | apply below_drew1) | exact HB.out)⟩
    · rw [if_neg c7] at H
      have c7b0 : (t125 == t126) = false := by simpa using c7
      (try (have c7b1 : decide (t125 = t126) = false := by simpa using c7))
      (try (have c7b2 : (t125 == t126) = false := by simpa using c7))
      (try (have c7b3 : ¬ (t125 = t126) := by simpa using c7))
      clear c7
      obtain rfl := Option.some.inj H
      go_enter Try.func5, Try.ntmps5
      go_wp2_with (first | ((with_reducible refine gate_callee (f := 19) rfl ?_); refine goesL_ (some 5) rfl rfl Try.func19 (by kernel_rfl) rfl #[] rfl (by (try simp only [List.map_toArray, List.map_cons, List.map_nil]); first | done | rfl | (simp only [List.length_drop, List.length_take]; rfl)) ?_; (with_reducible refine (halberdlaw01_alive.calls k  true _ A3.out).mono ?_); rintro e w19 ⟨rfl, hb⟩; refine ⟨_, rfl, ?_⟩; have n0_ := Aside0.mk (below_step (by repeat (first | (with_reducible first | exact HB.out | apply below_alloc | apply pw_below_drewN | apply below_drew1) | exact HB.out)) hb); clear HB; have HB := n0_; clear n0_; (try clear hb); (try clear hb2); (try clear hk); (try clear hi)) | (go_at_call 20; (with_reducible refine (words_IsSize.calls a1 t125 _ A5.out).mono ?_); rintro e w' ⟨rfl, ⟨nd, rfl⟩⟩) | (go_at_call 21; (with_reducible refine (halberdref01_Size.calls a1 t126 _ A6.out).mono ?_); rintro e w' ⟨rfl, ⟨nd, rfl⟩⟩))
      go_ret
      exact ⟨by first | rfl | (simp [errW_none, errW_some] <;> rfl) | (simp [*, errW_none, errW_some] <;> rfl), by repeat (first | (with_reducible first | exact HB.out | apply below_alloc | apply pw_below_drewN | apply below_drew1) | exact HB.out)⟩
  · replace c4 := Bool.eq_false_iff.mpr c4
    subst c4
    have H1 : (some false) = some r := by rw [if_neg (show ¬ (false = true) by decide)] at H; exact H
    clear H
    have H := H1
    clear H1
    obtain rfl := Option.some.inj H
    go_enter Try.func5, Try.ntmps5
    go_wp2_with (first | ((with_reducible refine gate_callee (f := 19) rfl ?_); refine goesL_ (some 5) rfl rfl Try.func19 (by kernel_rfl) rfl #[] rfl (by (try simp only [List.map_toArray, List.map_cons, List.map_nil]); first | done | rfl | (simp only [List.length_drop, List.length_take]; rfl)) ?_; (with_reducible refine (halberdlaw01_alive.calls k  false _ A3.out).mono ?_); rintro e w20 ⟨rfl, hb⟩; refine ⟨_, rfl, ?_⟩; have n0_ := Aside0.mk (below_step (by repeat (first | (with_reducible first | exact HB.out | apply below_alloc | apply pw_below_drewN | apply below_drew1) | exact HB.out)) hb); clear HB; have HB := n0_; clear n0_; (try clear hb); (try clear hb2); (try clear hk); (try clear hi)))
    go_ret
    exact ⟨by first | rfl | (simp [errW_none, errW_some] <;> rfl) | (simp [*, errW_none, errW_some] <;> rfl), by repeat (first | (with_reducible first | exact HB.out | apply below_alloc | apply pw_below_drewN | apply below_drew1) | exact HB.out)⟩

/-- THE ONE PURE STATEMENT of halberdlaw01_WordsCut: yours. -/
def halberdlaw01_WordsCut.Pure : Prop := ∀ (a0 : Int) (a1 : Int), (Lit.int .u64 a0).wf = true → (Lit.int .i64 a1).wf = true → ∃ k, halberdlaw01_WordsCut.f k a0 a1 = some true
theorem halberdlaw01_WordsCut.walk (P : halberdlaw01_WordsCut.Pure) (a0 : Int) (a1 : Int) (w : World) (w0 : (Lit.int .u64 a0).wf = true) (w1 : (Lit.int .i64 a1).wf = true) :
    Calls Try.prog 5 #[.int .u64 a0, .int .i64 a1] w fun e w' => e = .returned (.bool true) ∧ Below w.heap.size w w' := by
  obtain ⟨k, h⟩ := P a0 a1 w0 w1
  refine (halberdlaw01_WordsCut.calls k a0 a1 true w h).mono ?_
  rintro e w' ⟨rfl, hd⟩
  exact ⟨rfl, hd⟩

end Go.Proofs.Ytjpjcmokffjnaaa.PWordsCut
