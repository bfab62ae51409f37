/- Functions of the program that some laws reach, as Lean functions, and proofs that the program's calls come to what they say: written by a program, for the texts that import it; each theorem bears its own conditions. -/
import Derived.Test.YtkbngkhajkhfgaaDoorPPermsFlagsx0
import Derived.Test.YtkbngkhajkhfgaaDoorPPermsFlagsx1
namespace Go.Proofs.YtkbngkhajkhfgaaDoor.PPermsFlags
open Go.RowKit Go.Proofs.YtkbngkhajkhfgaaDoorW.PrintWords Go.Proofs.YtkbngkhajkhfgaaDoorW.PrintLast Go.Proofs.YtkbngkhajkhfgaaDoorW.PrintMore
attribute [local go_sem] max2_int min2_int max_two min_two max_three min_three max_four min_four   -- for this text's walks alone
set_option linter.unusedVariables false
set_option linter.unusedSimpArgs false

/-! ### halberdref23_Flags: function 9 -/
def halberdref23_Flags.j0 : Nat → Int → Bool → Option (Int)
  | 0, _, _ => none
  | k + 1, x0, x14 => if x14 = true then (some (-1)) else (if (Int.tmod x0 2) = 1 then (if (Int.tmod (wrap64 (Int.tdiv x0 2)) 2) = 1 then (some (4 + 2)) else (if (Int.tmod (wrap64 (Int.tdiv x0 16)) 2) = 1 then (some (4 + 2)) else (some 4))) else (if (Int.tmod (wrap64 (Int.tdiv x0 2)) 2) = 1 then (some (0 + 2)) else (if (Int.tmod (wrap64 (Int.tdiv x0 16)) 2) = 1 then (some (0 + 2)) else (some 0))))
def halberdref23_Flags.f (k : Nat) (a0 : Int) : Option (Int) := if a0 < 0 then (halberdref23_Flags.j0 k a0 true) else (if a0 > 31 then (halberdref23_Flags.j0 k a0 true) else (halberdref23_Flags.j0 k a0 ((Int.tmod a0 4) == 0)))
theorem halberdref23_Flags.mono_l : ∀ k, (∀ y0 y1, LeO (halberdref23_Flags.j0 k y0 y1) (halberdref23_Flags.j0 (k + 1) y0 y1))
  | 0 => fun _ _ r h => by simp [halberdref23_Flags.j0] at h
  | k + 1 => by
    have ih0 := halberdref23_Flags.mono_l k
    · intro y0 y1
      unfold halberdref23_Flags.j0
      repeat' first
      | (with_reducible exact ih0 _ _)
      | (with_reducible exact LeO.refl _)
      | (with_reducible exact LeO.none _)
      | (with_reducible refine LeO.ite ?_ ?_)
      | (with_reducible refine LeO.bind ?_ (fun _ => ?_))
      | exact ih0 _ _
      | exact LeO.none _
      | refine LeO.ite ?_ ?_
      | refine LeO.bind ?_ (fun _ => ?_)
theorem halberdref23_Flags.mono : ∀ a0 k, LeO (halberdref23_Flags.f k a0) (halberdref23_Flags.f (k + 1) a0) := by
  intro a0 k
  have ih0 := halberdref23_Flags.mono_l k
  unfold halberdref23_Flags.f
  repeat' first
      | (with_reducible exact ih0 _ _)
      | (with_reducible exact LeO.refl _)
      | (with_reducible exact LeO.none _)
      | (with_reducible refine LeO.ite ?_ ?_)
      | (with_reducible refine LeO.bind ?_ (fun _ => ?_))
      | exact ih0 _ _
      | exact LeO.none _
      | refine LeO.ite ?_ ?_
      | refine LeO.bind ?_ (fun _ => ?_)
set_option maxHeartbeats 8000000 in
set_option maxRecDepth 100000 in
theorem halberdref23_Flags.calls (k : Nat) (a0 : Int) (r : Int) (w : World) (h : halberdref23_Flags.f k a0 = some r) :
    Calls Tryd.prog 9 #[.int .i64 a0] w fun e w' => e = .returned (.int .i64 r) ∧ Drawn0 w w' := by
  have H : (if a0 < 0 then (halberdref23_Flags.j0 k a0 true) else (if a0 > 31 then (halberdref23_Flags.j0 k a0 true) else (halberdref23_Flags.j0 k a0 ((Int.tmod a0 4) == 0)))) = some r := h
  clear h
  have HC2 := Aside0.mk H
  clear H
  go_enter Tryd.func9, Tryd.ntmps9
  go_upto_region 1 with (fail)
  go_cut [14] (fun v14 wc => ∃ (kq : Nat) (x14_1 : Bool), v14 = .bool x14_1 ∧ Aside0 (halberdref23_Flags.j0 kq a0 x14_1 = some r) ∧ Aside0 (kq ≤ k) ∧ Drawn0 w wc)
  case first =>
    have H := HC2.out
    clear HC2
    by_cases c3 : a0 < 0
    · rw [if_pos c3] at H
      have c3b0 : decide (a0 < 0) = true := decide_eq_true c3
      clear c3
      (first | rw [c3b0] | (simp only [i64_w, i32_w]; rw [c3b0]) | skip)
      have H' := Aside0.mk H
      clear H
      go_wp2
      go_meet
      case rel => exact ⟨_, (true), (by first | rfl | (simp; done) | (simp [*]; done)), H', ⟨by first | omega | exact Nat.le_refl _⟩, by repeat (first | exact Drawn0.refl _ | apply Drawn0.step)⟩
    · rw [if_neg c3] at H
      have c3b0 : decide (a0 < 0) = false := decide_eq_false c3
      clear c3
      (first | rw [c3b0] | (simp only [i64_w, i32_w]; rw [c3b0]) | skip)
      by_cases c4 : a0 > 31
      · rw [if_pos c4] at H
        have c4b0 : decide (31 < a0) = true := decide_eq_true c4
        clear c4
        have H' := Aside0.mk H
        clear H
        go_wp2
        go_meet
        case rel => exact ⟨_, (true), (by first | rfl | (simp; done) | (simp [*]; done)), H', ⟨by first | omega | exact Nat.le_refl _⟩, by repeat (first | exact Drawn0.refl _ | apply Drawn0.step)⟩
      · rw [if_neg c4] at H
        have c4b0 : decide (31 < a0) = false := decide_eq_false c4
        clear c4
        have H' := Aside0.mk H
        clear H
        go_wp2
        go_meet
        case rel => exact ⟨_, (((Int.tmod a0 4) == 0)), (by first | rfl | (simp; done) | (simp [*]; done)), H', ⟨by first | omega | exact Nat.le_refl _⟩, by repeat (first | exact Drawn0.refl _ | apply Drawn0.step)⟩
  case rest =>
    clear HC2
    try clear p2
    try clear c3
    try clear c3b0
    try clear c4
    try clear c4b0
    obtain ⟨kq, x14_1, rfl, HA, HJ1, ⟨mc1, rfl⟩⟩ := hcut
    cases kq with
    | zero => exact absurd HA.out (by simp [halberdref23_Flags.j0])
    | succ kj1 =>
      have H := HA.out
      clear HA
      simp only [halberdref23_Flags.j0] at H
      by_cases c5 : x14_1 = true
      · subst c5
        have H1 : (some (-1)) = some r := by rw [if_pos rfl] at H; exact H
        clear H
        have H := H1
        clear H1
        obtain rfl := Option.some.inj H
        go_wp2
        go_ret
        exact ⟨by first | rfl | (simp; done) | (simp [*]; done), by repeat (first | exact Drawn0.refl _ | apply Drawn0.step)⟩
      · replace c5 := Bool.eq_false_iff.mpr c5
        subst c5
        have H1 : (if (Int.tmod a0 2) = 1 then (if (Int.tmod (wrap64 (Int.tdiv a0 2)) 2) = 1 then (some (4 + 2)) else (if (Int.tmod (wrap64 (Int.tdiv a0 16)) 2) = 1 then (some (4 + 2)) else (some 4))) else (if (Int.tmod (wrap64 (Int.tdiv a0 2)) 2) = 1 then (some (0 + 2)) else (if (Int.tmod (wrap64 (Int.tdiv a0 16)) 2) = 1 then (some (0 + 2)) else (some 0)))) = some r := by rw [if_neg (show ¬ (false = true) by decide)] at H; exact H
        clear H
        have H := H1
        clear H1
        by_cases c6 : (Int.tmod a0 2) = 1
        · rw [if_pos c6] at H
          have c6b0 : ((Int.tmod a0 2) == 1) = true := beq_iff_eq.mpr c6
          have c6b1 : ((Int.tmod a0 2) != 1) = false := bne_eq_false_iff_eq.mpr c6
          clear c6
          by_cases c7 : (Int.tmod (wrap64 (Int.tdiv a0 2)) 2) = 1
          · rw [if_pos c7] at H
            have c7b0 : ((Int.tmod (wrap64 (Int.tdiv a0 2)) 2) == 1) = true := beq_iff_eq.mpr c7
            have c7b1 : ((Int.tmod (wrap64 (Int.tdiv a0 2)) 2) != 1) = false := bne_eq_false_iff_eq.mpr c7
            clear c7
            obtain rfl := Option.some.inj H
            go_wp2
            go_ret
            exact ⟨by first | rfl | (simp; done) | (simp [*]; done), by repeat (first | exact Drawn0.refl _ | apply Drawn0.step)⟩
          · rw [if_neg c7] at H
            have c7b0 : ((Int.tmod (wrap64 (Int.tdiv a0 2)) 2) == 1) = false := beq_eq_false_iff_ne.mpr c7
            have c7b1 : ((Int.tmod (wrap64 (Int.tdiv a0 2)) 2) != 1) = true := bne_iff_ne.mpr c7
            by_cases c8 : (Int.tmod (wrap64 (Int.tdiv a0 16)) 2) = 1
            · rw [if_pos c8] at H
              have c8b0 : ((Int.tmod (wrap64 (Int.tdiv a0 16)) 2) == 1) = true := beq_iff_eq.mpr c8
              have c8b1 : ((Int.tmod (wrap64 (Int.tdiv a0 16)) 2) != 1) = false := bne_eq_false_iff_eq.mpr c8
              clear c8
              obtain rfl := Option.some.inj H
              go_wp2
              go_ret
              exact ⟨by first | rfl | (simp; done) | (simp [*]; done), by repeat (first | exact Drawn0.refl _ | apply Drawn0.step)⟩
            · rw [if_neg c8] at H
              have c8b0 : ((Int.tmod (wrap64 (Int.tdiv a0 16)) 2) == 1) = false := beq_eq_false_iff_ne.mpr c8
              have c8b1 : ((Int.tmod (wrap64 (Int.tdiv a0 16)) 2) != 1) = true := bne_iff_ne.mpr c8
              obtain rfl := Option.some.inj H
              go_wp2
              go_ret
              exact ⟨by first | rfl | (simp; done) | (simp [*]; done), by repeat (first | exact Drawn0.refl _ | apply Drawn0.step)⟩
        · rw [if_neg c6] at H
          have c6b0 : ((Int.tmod a0 2) == 1) = false := beq_eq_false_iff_ne.mpr c6
          have c6b1 : ((Int.tmod a0 2) != 1) = true := bne_iff_ne.mpr c6
          by_cases c9 : (Int.tmod (wrap64 (Int.tdiv a0 2)) 2) = 1
          · rw [if_pos c9] at H
            have c9b0 : ((Int.tmod (wrap64 (Int.tdiv a0 2)) 2) == 1) = true := beq_iff_eq.mpr c9
            have c9b1 : ((Int.tmod (wrap64 (Int.tdiv a0 2)) 2) != 1) = false := bne_eq_false_iff_eq.mpr c9
            clear c9
            obtain rfl := Option.some.inj H
            go_wp2
            go_ret
            exact ⟨by first | rfl | (simp; done) | (simp [*]; done), by repeat (first | exact Drawn0.refl _ | apply Drawn0.step)⟩
          · rw [if_neg c9] at H
            have c9b0 : ((Int.tmod (wrap64 (Int.tdiv a0 2)) 2) == 1) = false := beq_eq_false_iff_ne.mpr c9
            have c9b1 : ((Int.tmod (wrap64 (Int.tdiv a0 2)) 2) != 1) = true := bne_iff_ne.mpr c9
            by_cases c10 : (Int.tmod (wrap64 (Int.tdiv a0 16)) 2) = 1
            · rw [if_pos c10] at H
              have c10b0 : ((Int.tmod (wrap64 (Int.tdiv a0 16)) 2) == 1) = true := beq_iff_eq.mpr c10
              have c10b1 : ((Int.tmod (wrap64 (Int.tdiv a0 16)) 2) != 1) = false := bne_eq_false_iff_eq.mpr c10
              clear c10
              obtain rfl := Option.some.inj H
              go_wp2
              go_ret
              exact ⟨by first | rfl | (simp; done) | (simp [*]; done), by repeat (first | exact Drawn0.refl _ | apply Drawn0.step)⟩
            · rw [if_neg c10] at H
              have c10b0 : ((Int.tmod (wrap64 (Int.tdiv a0 16)) 2) == 1) = false := beq_eq_false_iff_ne.mpr c10
              have c10b1 : ((Int.tmod (wrap64 (Int.tdiv a0 16)) 2) != 1) = true := bne_iff_ne.mpr c10
              obtain rfl := Option.some.inj H
              go_wp2
              go_ret
              exact ⟨by first | rfl | (simp; done) | (simp [*]; done), by repeat (first | exact Drawn0.refl _ | apply Drawn0.step)⟩

/-! ### halberdlaw23_PermsFlags: function 3 -/
def halberdlaw23_PermsFlags.j0 : Nat → Int → Bool → Bool → Bool → Option (Bool)
  | 0, _, _, _, _ => none
  | k + 1, x1, x2, x3, x41 => if x41 = true then (some false) else (if (Go.bits .and .i64 x1 2) = 2 then (if x3 = true then ((perms_Prot.f k x1 x2 x3).bind fun t133 => (some (t133 == x2))) else ((perms_Prot.f k x1 x2 x3).bind fun t134 => (some (t134 == false)))) else ((perms_Prot.f k x1 x2 x3).bind fun t135 => (some (t135 == x2))))
def halberdlaw23_PermsFlags.f (k : Nat) (a0 : Int) (a1 : Int) (a2 : Bool) (a3 : Bool) : Option (Bool) := (halberdlaw23_alive.f k).bind fun t129 => (if t129 = true then ((perms_Flags.f k a0).bind fun bt130 => ((halberdref23_Flags.f k a0).bind fun t132 => (if (bt130.2 != (decide (t132 ≥ 0))) = true then (halberdlaw23_PermsFlags.j0 k a1 a2 a3 true) else (if bt130.2 = true then (if bt130.1 = t132 then (halberdlaw23_PermsFlags.j0 k a1 a2 a3 false) else (halberdlaw23_PermsFlags.j0 k a1 a2 a3 true)) else (halberdlaw23_PermsFlags.j0 k a1 a2 a3 (bt130.1 != 0)))))) else (some false))
theorem halberdlaw23_PermsFlags.mono_l : ∀ k, (∀ y0 y1 y2 y3, LeO (halberdlaw23_PermsFlags.j0 k y0 y1 y2 y3) (halberdlaw23_PermsFlags.j0 (k + 1) y0 y1 y2 y3))
  | 0 => fun _ _ _ _ r h => by simp [halberdlaw23_PermsFlags.j0] at h
  | k + 1 => by
    have ih0 := halberdlaw23_PermsFlags.mono_l k
    · intro y0 y1 y2 y3
      unfold halberdlaw23_PermsFlags.j0
      repeat' first
      | (with_reducible exact ih0 _ _ _ _)
      | (with_reducible exact halberdlaw23_alive.mono _)
      | (with_reducible exact halberdref23_Flags.mono _ _)
      | (with_reducible exact perms_Flags.mono _ _)
      | (with_reducible exact perms_Prot.mono _ _ _ _)
      | (with_reducible exact LeO.refl _)
      | (with_reducible exact LeO.none _)
      | (with_reducible refine LeO.ite ?_ ?_)
      | (with_reducible refine LeO.bind ?_ (fun _ => ?_))
      | exact ih0 _ _ _ _
      | exact halberdlaw23_alive.mono _
      | exact halberdref23_Flags.mono _ _
      | exact perms_Flags.mono _ _
      | exact perms_Prot.mono _ _ _ _
      | exact LeO.none _
      | refine LeO.ite ?_ ?_
      | refine LeO.bind ?_ (fun _ => ?_)
theorem halberdlaw23_PermsFlags.mono : ∀ a0 a1 a2 a3 k, LeO (halberdlaw23_PermsFlags.f k a0 a1 a2 a3) (halberdlaw23_PermsFlags.f (k + 1) a0 a1 a2 a3) := by
  intro a0 a1 a2 a3 k
  have ih0 := halberdlaw23_PermsFlags.mono_l k
  unfold halberdlaw23_PermsFlags.f
  repeat' first
      | (with_reducible exact ih0 _ _ _ _)
      | (with_reducible exact halberdlaw23_alive.mono _)
      | (with_reducible exact halberdref23_Flags.mono _ _)
      | (with_reducible exact perms_Flags.mono _ _)
      | (with_reducible exact perms_Prot.mono _ _ _ _)
      | (with_reducible exact LeO.refl _)
      | (with_reducible exact LeO.none _)
      | (with_reducible refine LeO.ite ?_ ?_)
      | (with_reducible refine LeO.bind ?_ (fun _ => ?_))
      | exact ih0 _ _ _ _
      | exact halberdlaw23_alive.mono _
      | exact halberdref23_Flags.mono _ _
      | exact perms_Flags.mono _ _
      | exact perms_Prot.mono _ _ _ _
      | exact LeO.none _
      | refine LeO.ite ?_ ?_
      | refine LeO.bind ?_ (fun _ => ?_)
set_option maxHeartbeats 8000000 in
set_option maxRecDepth 100000 in
theorem halberdlaw23_PermsFlags.calls (k : Nat) (a0 : Int) (a1 : Int) (a2 : Bool) (a3 : Bool) (r : Bool) (w : World) (hr_ : Aside0 (r = true)) (h : halberdlaw23_PermsFlags.f k a0 a1 a2 a3 = some r) :
    Calls Tryd.prog 3 #[.int .i64 a0, .int .i64 a1, .bool a2, .bool a3] w fun e w' => e = .returned (.bool r) ∧ Below w.heap.size w w' := by
  have HB := Aside0.mk (Below.refl w.heap.size w)
  have H : ((halberdlaw23_alive.f k).bind fun t129 => (if t129 = true then ((perms_Flags.f k a0).bind fun bt130 => ((halberdref23_Flags.f k a0).bind fun t132 => (if (bt130.2 != (decide (t132 ≥ 0))) = true then (halberdlaw23_PermsFlags.j0 k a1 a2 a3 true) else (if bt130.2 = true then (if bt130.1 = t132 then (halberdlaw23_PermsFlags.j0 k a1 a2 a3 false) else (halberdlaw23_PermsFlags.j0 k a1 a2 a3 true)) else (halberdlaw23_PermsFlags.j0 k a1 a2 a3 (bt130.1 != 0)))))) else (some false))) = some r := h
  clear h
  replace H := Option.bind_eq_some_iff.mp H
  obtain ⟨t129, A50, H⟩ := H
  replace H : (if t129 = true then ((perms_Flags.f k a0).bind fun bt130 => ((halberdref23_Flags.f k a0).bind fun t132 => (if (bt130.2 != (decide (t132 ≥ 0))) = true then (halberdlaw23_PermsFlags.j0 k a1 a2 a3 true) else (if bt130.2 = true then (if bt130.1 = t132 then (halberdlaw23_PermsFlags.j0 k a1 a2 a3 false) else (halberdlaw23_PermsFlags.j0 k a1 a2 a3 true)) else (halberdlaw23_PermsFlags.j0 k a1 a2 a3 (bt130.1 != 0)))))) else (some false)) = some r := H
  have A5 := Aside0.mk A50
  clear A50
  by_cases c6 : t129 = true
  · subst c6
    have H1 : ((perms_Flags.f k a0).bind fun bt130 => ((halberdref23_Flags.f k a0).bind fun t132 => (if (bt130.2 != (decide (t132 ≥ 0))) = true then (halberdlaw23_PermsFlags.j0 k a1 a2 a3 true) else (if bt130.2 = true then (if bt130.1 = t132 then (halberdlaw23_PermsFlags.j0 k a1 a2 a3 false) else (halberdlaw23_PermsFlags.j0 k a1 a2 a3 true)) else (halberdlaw23_PermsFlags.j0 k a1 a2 a3 (bt130.1 != 0)))))) = some r := by rw [if_pos rfl] at H; exact H
    clear H
    have H := H1
    clear H1
    replace H := Option.bind_eq_some_iff.mp H
    obtain ⟨⟨t130, t131⟩, A70, H⟩ := H
    replace H : ((halberdref23_Flags.f k a0).bind fun t132 => (if (t131 != (decide (t132 ≥ 0))) = true then (halberdlaw23_PermsFlags.j0 k a1 a2 a3 true) else (if t131 = true then (if t130 = t132 then (halberdlaw23_PermsFlags.j0 k a1 a2 a3 false) else (halberdlaw23_PermsFlags.j0 k a1 a2 a3 true)) else (halberdlaw23_PermsFlags.j0 k a1 a2 a3 (t130 != 0))))) = some r := H
    have A7 := Aside0.mk A70
    clear A70
    replace H := Option.bind_eq_some_iff.mp H
    obtain ⟨t132, A80, H⟩ := H
    replace H : (if (t131 != (decide (t132 ≥ 0))) = true then (halberdlaw23_PermsFlags.j0 k a1 a2 a3 true) else (if t131 = true then (if t130 = t132 then (halberdlaw23_PermsFlags.j0 k a1 a2 a3 false) else (halberdlaw23_PermsFlags.j0 k a1 a2 a3 true)) else (halberdlaw23_PermsFlags.j0 k a1 a2 a3 (t130 != 0)))) = some r := H
    have A8 := Aside0.mk A80
    clear A80
    have HC9 := Aside0.mk H
    clear H
    go_enter Tryd.func3, Tryd.ntmps3
    go_upto_region 5 with (first | ((with_reducible refine gate_callee (f := 7) rfl ?_); refine goesL_ (some 13) rfl rfl Tryd.func7 (by kernel_rfl) rfl #[] rfl (by (try simp only [List.map_toArray, List.map_cons, List.map_nil]); first | done | rfl | (simp only [List.length_drop, List.length_take]; rfl)) ?_; (with_reducible refine (halberdlaw23_alive.calls k  true _ A5.out).mono ?_); rintro e w10 ⟨rfl, hb⟩; refine ⟨_, rfl, ?_⟩; have n0_ := Aside0.mk (below_step (by repeat (first | (with_reducible first | exact HB.out | apply below_alloc | apply pw_below_drewN | apply below_drew1) | exact HB.out)) hb); clear HB; have HB := n0_; clear n0_; (try clear hb); (try clear hb2); (try clear hk); (try clear hi)) | ((with_reducible refine gate_callee (f := 8) rfl ?_); refine goesL_ (some 17) rfl rfl Tryd.func8 (by kernel_rfl) rfl #[.int .i64 a0] rfl (by (try simp only [List.map_toArray, List.map_cons, List.map_nil]); first | done | rfl | (simp only [List.length_drop, List.length_take]; rfl)) ?_; (with_reducible refine (perms_Flags.calls k a0 t130 t131 _ A7.out).mono ?_); rintro e w11 ⟨rfl, hb⟩; refine ⟨_, rfl, ?_⟩; have n0_ := Aside0.mk (below_step (by repeat (first | (with_reducible first | exact HB.out | apply below_alloc | apply pw_below_drewN | apply below_drew1) | exact HB.out)) hb); clear HB; have HB := n0_; clear n0_; (try clear hb); (try clear hb2); (try clear hk); (try clear hi)) | ((with_reducible refine gate_callee (f := 9) rfl ?_); refine goesL_ (some 21) rfl rfl Tryd.func9 (by kernel_rfl) rfl #[.int .i64 a0] rfl (by (try simp only [List.map_toArray, List.map_cons, List.map_nil]); first | done | rfl | (simp only [List.length_drop, List.length_take]; rfl)) ?_; (with_reducible refine (halberdref23_Flags.calls k a0 t132 _ A8.out).mono ?_); rintro e w' ⟨rfl, ⟨nd, rfl⟩⟩; refine ⟨_, rfl, ?_⟩))
    (try simp only [Act.put, List.setIfInBounds_toArray, List.set_cons_zero, List.set_cons_succ])
    go_cut [41] (fun v41 wc => ∃ (kq : Nat) (x41_8 : Bool), v41 = .bool x41_8 ∧ Aside0 (halberdlaw23_PermsFlags.j0 kq a1 a2 a3 x41_8 = some r) ∧ Aside0 (kq ≤ k) ∧ Aside0 (Below w.heap.size w wc))
    case first =>
      have H := HC9.out
      clear HC9
      by_cases c12 : (t131 != (decide (t132 ≥ 0))) = true
      · rw [if_pos c12] at H
        have c12b0 : (t131 != (decide (t132 ≥ 0))) = true := c12
        (try (have c12b1 : decide (t131 = (decide (t132 ≥ 0))) = false := by simpa using c12))
        (try (have c12b2 : (t131 == (decide (t132 ≥ 0))) = false := by simpa using c12))
        (try (have c12b3 : ¬ (t131 = (decide (t132 ≥ 0))) := by simpa using c12))
        clear c12
        (first | rw [c12b0] | (simp only [i64_w, i32_w]; rw [c12b0]) | skip)
        have H' := Aside0.mk H
        clear H
        go_wp2
        go_meet
        case rel => exact ⟨_, (true), (by first | rfl | (simp; done) | (simp [*]; done)), H', ⟨by first | omega | exact Nat.le_refl _⟩, ⟨by repeat (first | (with_reducible first | exact HB.out | apply below_alloc | apply pw_below_drewN | apply below_drew1) | exact HB.out)⟩⟩
      · rw [if_neg c12] at H
        have c12b0 : (t131 != (decide (t132 ≥ 0))) = false := by simpa using c12
        (try (have c12b1 : decide (t131 = (decide (t132 ≥ 0))) = true := by simpa using c12))
        (try (have c12b2 : (t131 == (decide (t132 ≥ 0))) = true := by simpa using c12))
        clear c12
        (first | rw [c12b0] | (simp only [i64_w, i32_w]; rw [c12b0]) | skip)
        by_cases c13 : t131 = true
        · subst c13
          have H1 : (if t130 = t132 then (halberdlaw23_PermsFlags.j0 k a1 a2 a3 false) else (halberdlaw23_PermsFlags.j0 k a1 a2 a3 true)) = some r := by rw [if_pos rfl] at H; exact H
          clear H
          have H := H1
          clear H1
          by_cases c14 : t130 = t132
          · rw [if_pos c14] at H
            have c14b0 : (t130 == t132) = true := beq_iff_eq.mpr c14
            have c14b1 : (t130 != t132) = false := bne_eq_false_iff_eq.mpr c14
            clear c14
            have H' := Aside0.mk H
            clear H
            go_wp2
            go_meet
            case rel => exact ⟨_, (false), (by first | rfl | (simp; done) | (simp [*]; done)), H', ⟨by first | omega | exact Nat.le_refl _⟩, ⟨by repeat (first | (with_reducible first | exact HB.out | apply below_alloc | apply pw_below_drewN | apply below_drew1) | exact HB.out)⟩⟩
          · rw [if_neg c14] at H
            have c14b0 : (t130 == t132) = false := beq_eq_false_iff_ne.mpr c14
            have c14b1 : (t130 != t132) = true := bne_iff_ne.mpr c14
            have H' := Aside0.mk H
            clear H
            go_wp2
            go_meet
            case rel => exact ⟨_, (true), (by first | rfl | (simp; done) | (simp [*]; done)), H', ⟨by first | omega | exact Nat.le_refl _⟩, ⟨by repeat (first | (with_reducible first | exact HB.out | apply below_alloc | apply pw_below_drewN | apply below_drew1) | exact HB.out)⟩⟩
        · replace c13 := Bool.eq_false_iff.mpr c13
          subst c13
          have H1 : (halberdlaw23_PermsFlags.j0 k a1 a2 a3 (t130 != 0)) = some r := by rw [if_neg (show ¬ (false = true) by decide)] at H; exact H
          clear H
          have H := H1
          clear H1
          have H' := Aside0.mk H
          clear H
          go_wp2
          go_meet
          case rel => exact ⟨_, ((t130 != 0)), (by first | rfl | (simp; done) | (simp [*]; done)), H', ⟨by first | omega | exact Nat.le_refl _⟩, ⟨by repeat (first | (with_reducible first | exact HB.out | apply below_alloc | apply pw_below_drewN | apply below_drew1) | exact HB.out)⟩⟩
    case rest =>
      clear HC9
      try clear c1
      try clear p2
      try clear c3
      try clear c6
      try clear c7
      try clear c8
      try clear c9
      try clear c12
      try clear c12b0
      try clear c12b1
      try clear c12b2
      try clear c13
      try clear c14
      try clear c14b0
      try clear c14b1
      obtain ⟨kq, x41_8, rfl, HA, HJ8, HB⟩ := hcut
      cases kq with
      | zero => exact absurd HA.out (by simp [halberdlaw23_PermsFlags.j0])
      | succ kj8 =>
        have H := HA.out
        clear HA
        simp only [halberdlaw23_PermsFlags.j0] at H
        by_cases c15 : x41_8 = true
        · subst c15
          have H1 : (some false) = some r := by rw [if_pos rfl] at H; exact H
          clear H
          have H := H1
          clear H1
          exact absurd (Option.some.inj H) (by rw [hr_.out]; decide)
        · replace c15 := Bool.eq_false_iff.mpr c15
          subst c15
          have H1 : (if (Go.bits .and .i64 a1 2) = 2 then (if a3 = true then ((perms_Prot.f kj8 a1 a2 a3).bind fun t133 => (some (t133 == a2))) else ((perms_Prot.f kj8 a1 a2 a3).bind fun t134 => (some (t134 == false)))) else ((perms_Prot.f kj8 a1 a2 a3).bind fun t135 => (some (t135 == a2)))) = some r := by rw [if_neg (show ¬ (false = true) by decide)] at H; exact H
          clear H
          have H := H1
          clear H1
          by_cases c16 : (Go.bits .and .i64 a1 2) = 2
          · rw [if_pos c16] at H
            have c16b0 : ((Go.bits .and .i64 a1 2) == 2) = true := beq_iff_eq.mpr c16
            have c16b1 : ((Go.bits .and .i64 a1 2) != 2) = false := bne_eq_false_iff_eq.mpr c16
            clear c16
            by_cases c17 : a3 = true
            · subst c17
              have H1 : ((perms_Prot.f kj8 a1 a2 true).bind fun t133 => (some (t133 == a2))) = some r := by rw [if_pos rfl] at H; exact H
              clear H
              have H := H1
              clear H1
              replace H := Option.bind_eq_some_iff.mp H
              obtain ⟨t133, A180, H⟩ := H
              replace H : (some (t133 == a2)) = some r := H
              have A18 := Aside0.mk A180
              clear A180
              obtain rfl := Option.some.inj H
              go_wp2_with (first | ((with_reducible refine gate_callee (f := 10) rfl ?_); refine goesL_ (some 53) rfl rfl Tryd.func10 (by kernel_rfl) rfl #[.int .i64 a1, .bool a2, .bool true] rfl (by (try simp only [List.map_toArray, List.map_cons, List.map_nil]); first | done | rfl | (simp only [List.length_drop, List.length_take]; rfl)) ?_; (with_reducible refine (perms_Prot.calls kj8 a1 a2 true t133 _ A18.out).mono ?_); rintro e w19 ⟨rfl, hb⟩; refine ⟨_, rfl, ?_⟩; have n0_ := Aside0.mk (below_step (by repeat (first | (with_reducible first | exact HB.out | apply below_alloc | apply pw_below_drewN | apply below_drew1) | exact HB.out)) hb); clear HB; have HB := n0_; clear n0_; (try clear hb); (try clear hb2); (try clear hk); (try clear hi)) | (go_at_call 10; (with_reducible refine (perms_Prot.calls kj8 a1 a2 true t133 _ A18.out).mono ?_); rintro e w19 ⟨rfl, hb⟩; have n0_ := Aside0.mk (below_step (by repeat (first | (with_reducible first | exact HB.out | apply below_alloc | apply pw_below_drewN | apply below_drew1) | exact HB.out)) hb); clear HB; have HB := n0_; clear n0_; (try clear hb); (try clear hb2); (try clear hk); (try clear hi)))
              go_ret
              exact ⟨by first | rfl | (simp [errW_none, errW_some] <;> rfl) | (simp [*, errW_none, errW_some] <;> rfl), by repeat (first | (with_reducible first | exact HB.out | apply below_alloc | apply pw_below_drewN | apply below_drew1) | exact HB.out)⟩
            · replace c17 := Bool.eq_false_iff.mpr c17
              subst c17
              have H1 : ((perms_Prot.f kj8 a1 a2 false).bind fun t134 => (some (t134 == false))) = some r := by rw [if_neg (show ¬ (false = true) by decide)] at H; exact H
              clear H
              have H := H1
              clear H1
              replace H := Option.bind_eq_some_iff.mp H
              obtain ⟨t134, A200, H⟩ := H
              replace H : (some (t134 == false)) = some r := H
              have A20 := Aside0.mk A200
              clear A200
              obtain rfl := Option.some.inj H
              go_wp2_with (first | ((with_reducible refine gate_callee (f := 10) rfl ?_); refine goesL_ (some 53) rfl rfl Tryd.func10 (by kernel_rfl) rfl #[.int .i64 a1, .bool a2, .bool false] rfl (by (try simp only [List.map_toArray, List.map_cons, List.map_nil]); first | done | rfl | (simp only [List.length_drop, List.length_take]; rfl)) ?_; (with_reducible refine (perms_Prot.calls kj8 a1 a2 false t134 _ A20.out).mono ?_); rintro e w21 ⟨rfl, hb⟩; refine ⟨_, rfl, ?_⟩; have n0_ := Aside0.mk (below_step (by repeat (first | (with_reducible first | exact HB.out | apply below_alloc | apply pw_below_drewN | apply below_drew1) | exact HB.out)) hb); clear HB; have HB := n0_; clear n0_; (try clear hb); (try clear hb2); (try clear hk); (try clear hi)) | (go_at_call 10; (with_reducible refine (perms_Prot.calls kj8 a1 a2 false t134 _ A20.out).mono ?_); rintro e w21 ⟨rfl, hb⟩; have n0_ := Aside0.mk (below_step (by repeat (first | (with_reducible first | exact HB.out | apply below_alloc | apply pw_below_drewN | apply below_drew1) | exact HB.out)) hb); clear HB; have HB := n0_; clear n0_; (try clear hb); (try clear hb2); (try clear hk); (try clear hi)))
              go_ret
              exact ⟨by first | rfl | (simp [errW_none, errW_some] <;> rfl) | (simp [*, errW_none, errW_some] <;> rfl), by repeat (first | (with_reducible first | exact HB.out | apply below_alloc | apply pw_below_drewN | apply below_drew1) | exact HB.out)⟩
          · rw [if_neg c16] at H
            have c16b0 : ((Go.bits .and .i64 a1 2) == 2) = false := beq_eq_false_iff_ne.mpr c16
            have c16b1 : ((Go.bits .and .i64 a1 2) != 2) = true := bne_iff_ne.mpr c16
            replace H := Option.bind_eq_some_iff.mp H
            obtain ⟨t135, A220, H⟩ := H
            replace H : (some (t135 == a2)) = some r := H
            have A22 := Aside0.mk A220
            clear A220
            obtain rfl := Option.some.inj H
            go_wp2_with (first | ((with_reducible refine gate_callee (f := 10) rfl ?_); refine goesL_ (some 53) rfl rfl Tryd.func10 (by kernel_rfl) rfl #[.int .i64 a1, .bool a2, .bool a3] rfl (by (try simp only [List.map_toArray, List.map_cons, List.map_nil]); first | done | rfl | (simp only [List.length_drop, List.length_take]; rfl)) ?_; (with_reducible refine (perms_Prot.calls kj8 a1 a2 a3 t135 _ A22.out).mono ?_); rintro e w23 ⟨rfl, hb⟩; refine ⟨_, rfl, ?_⟩; have n0_ := Aside0.mk (below_step (by repeat (first | (with_reducible first | exact HB.out | apply below_alloc | apply pw_below_drewN | apply below_drew1) | exact HB.out)) hb); clear HB; have HB := n0_; clear n0_; (try clear hb); (try clear hb2); (try clear hk); (try clear hi)) | (go_at_call 10; (with_reducible refine (perms_Prot.calls kj8 a1 a2 a3 t135 _ A22.out).mono ?_); rintro e w23 ⟨rfl, hb⟩; have n0_ := Aside0.mk (below_step (by repeat (first | (with_reducible first | exact HB.out | apply below_alloc | apply pw_below_drewN | apply below_drew1) | exact HB.out)) hb); clear HB; have HB := n0_; clear n0_; (try clear hb); (try clear hb2); (try clear hk); (try clear hi)))
            go_ret
            exact ⟨by first | rfl | (simp [errW_none, errW_some] <;> rfl) | (simp [*, errW_none, errW_some] <;> rfl), by repeat (first | (with_reducible first | exact HB.out | apply below_alloc | apply pw_below_drewN | apply below_drew1) | exact HB.out)⟩
  · replace c6 := Bool.eq_false_iff.mpr c6
    subst c6
    have H1 : (some false) = some r := by rw [if_neg (show ¬ (false = true) by decide)] at H; exact H
    clear H
    have H := H1
    clear H1
    exact absurd (Option.some.inj H) (by rw [hr_.out]; decide)

/-- THE ONE PURE STATEMENT of halberdlaw23_PermsFlags. -/
def halberdlaw23_PermsFlags.Pure : Prop := ∀ (a0 : Int) (a1 : Int) (a2 : Bool) (a3 : Bool), ((Lit.int .i64 a0).wf = true) → ((Lit.int .i64 a1).wf = true) → ∃ k, halberdlaw23_PermsFlags.f k a0 a1 a2 a3 = some true

end Go.Proofs.YtkbngkhajkhfgaaDoor.PPermsFlags
