/- Functions of the program that some laws reach, as Lean functions, and proofs that the program's calls come to what they say: written by a program, for the texts that import it; each theorem bears its own conditions. -/
import Derived.Test.YtkbngkhajkhfgaaDoorPPermsStatx0
namespace Go.Proofs.YtkbngkhajkhfgaaDoor.PPermsStat
open Go.RowKit Go.Proofs.YtkbngkhajkhfgaaDoorW.PrintWords Go.Proofs.YtkbngkhajkhfgaaDoorW.PrintLast Go.Proofs.YtkbngkhajkhfgaaDoorW.PrintMore
attribute [local go_sem] max2_int min2_int max_two min_two max_three min_three max_four min_four   -- for this text's walks alone
set_option linter.unusedVariables false
set_option linter.unusedSimpArgs false

/-! ### perms_has: function 19 -/
def perms_has.l0 : Nat → Int → List Int → Int → Int → Option (Bool)
  | 0, _, _, _, _ => none
  | k + 1, x0, x7, x8, x9 => if x9 < x8 then (if 0 ≤ x9 then (if x9 < (x7.length : Int) then (if (Go.bits .and .i64 x0 (rd x7 x9)) = 0 then (perms_has.l0 k x0 x7 x8 (wrap64 (x9 + 1))) else (some true)) else (none)) else (none)) else (some false)
def perms_has.f (k : Nat) (a0 : Int) (l1 : List Int) : Option (Bool) := perms_has.l0 k a0 l1 (l1.length : Int) 0
theorem perms_has.mono_l : ∀ k, (∀ y0 y1 y2 y3, LeO (perms_has.l0 k y0 y1 y2 y3) (perms_has.l0 (k + 1) y0 y1 y2 y3))
  | 0 => fun _ _ _ _ r h => by simp [perms_has.l0] at h
  | k + 1 => by
    have ih0 := perms_has.mono_l k
    · intro y0 y1 y2 y3
      unfold perms_has.l0
      repeat' first
      | (with_reducible exact ih0 _ _ _ _)
      | (with_reducible exact LeO.refl _)
      | (with_reducible exact LeO.none _)
      | (with_reducible refine LeO.ite ?_ ?_)
      | (with_reducible refine LeO.bind ?_ (fun _ => ?_))
      | exact ih0 _ _ _ _
      | exact LeO.none _
      | refine LeO.ite ?_ ?_
      | refine LeO.bind ?_ (fun _ => ?_)
theorem perms_has.mono : ∀ a0 a1 k, LeO (perms_has.f k a0 a1) (perms_has.f (k + 1) a0 a1) := by
  intro a0 a1 k
  have ih0 := perms_has.mono_l k
  unfold perms_has.f
  repeat' first
      | (with_reducible exact ih0 _ _ _ _)
      | (with_reducible exact LeO.refl _)
      | (with_reducible exact LeO.none _)
      | (with_reducible refine LeO.ite ?_ ?_)
      | (with_reducible refine LeO.bind ?_ (fun _ => ?_))
      | exact ih0 _ _ _ _
      | exact LeO.none _
      | refine LeO.ite ?_ ?_
      | refine LeO.bind ?_ (fun _ => ?_)
set_option maxHeartbeats 8000000 in
set_option maxRecDepth 100000 in
theorem perms_has.calls (k : Nat) (a0 : Int) (A1 : Option Addr) (c1 : Nat) (l1 : List Int) (r : Bool) (w : World) (hr1 : Kd.C (Kd.int .i64) w A1 l1.length l1) (hc1 : l1.length ≤ c1) (h : perms_has.f k a0 l1 = some r) :
    Calls Tryd.prog 19 #[.int .i64 a0, .slice A1 l1.length c1] w fun e w' => e = .returned (.bool r) ∧ Drawn0 w w' := by
  have HR1 := Aside0.mk hr1
  have HC1 := Aside0.mk hc1
  clear hr1 hc1
  have H : (perms_has.l0 k a0 l1 (l1.length : Int) 0) = some r := h
  clear h
  have H' := Aside0.mk H
  clear H
  go_enter Tryd.func19, Tryd.ntmps19
  go_wp2
  go_loopg [9] k (fun kq v9 w' => ∃ (x9_1 : Int), v9 = .int .i64 x9_1 ∧ Aside0 (perms_has.l0 kq a0 l1 (l1.length : Int) x9_1 = some r) ∧ Aside0 (kq ≤ k) ∧ Drawn0 w w')
  case atStart => exact ⟨(0), (by first | rfl | (simp; done) | (simp [*]; done)), H', ⟨Nat.le_refl _⟩, by repeat (first | exact Drawn0.refl _ | apply Drawn0.step)⟩
  case round =>
    clear H'
    try clear c1
    try clear p2
    obtain ⟨x9_1, rfl, HA, HK1, ⟨m1, rfl⟩⟩ := hrel
    cases gk with
    | zero => exact absurd HA.out (by simp [perms_has.l0])
    | succ k1 =>
      have H := HA.out
      clear HA
      simp only [perms_has.l0] at H
      by_cases c3 : x9_1 < (l1.length : Int)
      · rw [if_pos c3] at H
        have c3b0 : decide (x9_1 < (l1.length : Int)) = true := decide_eq_true c3
        clear c3
        by_cases c4 : 0 ≤ x9_1
        · rw [if_pos c4] at H
          have c4b0 : decide (0 ≤ x9_1) = true := decide_eq_true c4
          clear c4
          by_cases c5 : x9_1 < (l1.length : Int)
          · rw [if_pos c5] at H
            have c5b0 : decide (x9_1 < (l1.length : Int)) = true := decide_eq_true c5
            clear c5
            by_cases c6 : (Go.bits .and .i64 a0 (rd l1 x9_1)) = 0
            · rw [if_pos c6] at H
              have c6b0 : ((Go.bits .and .i64 a0 (rd l1 x9_1)) == 0) = true := beq_iff_eq.mpr c6
              have c6b1 : ((Go.bits .and .i64 a0 (rd l1 x9_1)) != 0) = false := bne_eq_false_iff_eq.mpr c6
              clear c6
              have H' := Aside0.mk H
              clear H
              have p101 : 0 ≤ (x9_1 : Int) := of_decide_eq_true (by first | (with_reducible assumption) | assumption)
              have q101 : x9_1 < (l1.length : Int) := of_decide_eq_true (by first | (with_reducible assumption) | assumption)
              obtain ⟨ad101, e101, hx101_0⟩ := Kd.at_int HR1.out x9_1 p101 q101
              cases e101
              replace p101 := eq_true p101
              replace q101 := eq_true q101
              go_wp2
              go_roundg k1
              case measure => have := HK1.out; omega
              case rel => exact ⟨(wrap64 (x9_1 + 1)), (by first | rfl | (simp; done) | (simp [*]; done)), H', ⟨by have := HK1.out; omega⟩, by repeat (first | exact Drawn0.refl _ | apply Drawn0.step)⟩
            · rw [if_neg c6] at H
              have c6b0 : ((Go.bits .and .i64 a0 (rd l1 x9_1)) == 0) = false := beq_eq_false_iff_ne.mpr c6
              have c6b1 : ((Go.bits .and .i64 a0 (rd l1 x9_1)) != 0) = true := bne_iff_ne.mpr c6
              obtain rfl := Option.some.inj H
              have p101 : 0 ≤ (x9_1 : Int) := of_decide_eq_true (by first | (with_reducible assumption) | assumption)
              have q101 : x9_1 < (l1.length : Int) := of_decide_eq_true (by first | (with_reducible assumption) | assumption)
              obtain ⟨ad101, e101, hx101_0⟩ := Kd.at_int HR1.out x9_1 p101 q101
              cases e101
              replace p101 := eq_true p101
              replace q101 := eq_true q101
              go_wp2
              go_ret
              exact ⟨by first | rfl | (simp; done) | (simp [*]; done), by repeat (first | exact Drawn0.refl _ | apply Drawn0.step)⟩
          · rw [if_neg c5] at H
            exact absurd H (by simp)
        · rw [if_neg c4] at H
          exact absurd H (by simp)
      · rw [if_neg c3] at H
        have c3b0 : decide (x9_1 < (l1.length : Int)) = false := decide_eq_false c3
        clear c3
        obtain rfl := Option.some.inj H
        go_wp2
        go_ret
        exact ⟨by first | rfl | (simp; done) | (simp [*]; done), by repeat (first | exact Drawn0.refl _ | apply Drawn0.step)⟩

/-! ### perms_Flags: function 8 -/
def perms_Flags.j0 : Nat → Int → Bool → Option (Int × Bool)
  | 0, _, _ => none
  | k + 1, x0, x16 => if x16 = true then (some (0, false)) else ((perms_has.f k x0 (([1] : List Int))).bind fun t109 => (if t109 = true then ((perms_has.f k x0 (([2, 16] : List Int))).bind fun t113 => (if t113 = true then (some (Go.bits .or .i64 (Go.bits .or .i64 0 4) 2, true)) else (some (Go.bits .or .i64 0 4, true)))) else ((perms_has.f k x0 (([2, 16] : List Int))).bind fun t117 => (if t117 = true then (some (Go.bits .or .i64 0 2, true)) else (some (0, true))))))
def perms_Flags.f (k : Nat) (a0 : Int) : Option (Int × Bool) := if a0 < 0 then (perms_Flags.j0 k a0 true) else (if a0 > 31 then (perms_Flags.j0 k a0 true) else ((perms_has.f k a0 (([1, 2] : List Int))).bind fun t105 => (perms_Flags.j0 k a0 (!t105))))
theorem perms_Flags.mono_l : ∀ k, (∀ y0 y1, LeO (perms_Flags.j0 k y0 y1) (perms_Flags.j0 (k + 1) y0 y1))
  | 0 => fun _ _ r h => by simp [perms_Flags.j0] at h
  | k + 1 => by
    have ih0 := perms_Flags.mono_l k
    · intro y0 y1
      unfold perms_Flags.j0
      repeat' first
      | (with_reducible exact ih0 _ _)
      | (with_reducible exact perms_has.mono _ _ _)
      | (with_reducible exact LeO.refl _)
      | (with_reducible exact LeO.none _)
      | (with_reducible refine LeO.ite ?_ ?_)
      | (with_reducible refine LeO.bind ?_ (fun _ => ?_))
      | exact ih0 _ _
      | exact perms_has.mono _ _ _
      | exact LeO.none _
      | refine LeO.ite ?_ ?_
      | refine LeO.bind ?_ (fun _ => ?_)
theorem perms_Flags.mono : ∀ a0 k, LeO (perms_Flags.f k a0) (perms_Flags.f (k + 1) a0) := by
  intro a0 k
  have ih0 := perms_Flags.mono_l k
  unfold perms_Flags.f
  repeat' first
      | (with_reducible exact ih0 _ _)
      | (with_reducible exact perms_has.mono _ _ _)
      | (with_reducible exact LeO.refl _)
      | (with_reducible exact LeO.none _)
      | (with_reducible refine LeO.ite ?_ ?_)
      | (with_reducible refine LeO.bind ?_ (fun _ => ?_))
      | exact ih0 _ _
      | exact perms_has.mono _ _ _
      | exact LeO.none _
      | refine LeO.ite ?_ ?_
      | refine LeO.bind ?_ (fun _ => ?_)
set_option maxHeartbeats 8000000 in
set_option maxRecDepth 100000 in
theorem perms_Flags.calls (k : Nat) (a0 : Int) (r1 : Int) (r2 : Bool) (w : World) (h : perms_Flags.f k a0 = some (r1, r2)) :
    Calls Tryd.prog 8 #[.int .i64 a0] w fun e w' => e = .returned (.tuple #[.int .i64 r1, .bool r2]) ∧ Below w.heap.size w w' := by
  have HB := Aside0.mk (Below.refl w.heap.size w)
  have H : (if a0 < 0 then (perms_Flags.j0 k a0 true) else (if a0 > 31 then (perms_Flags.j0 k a0 true) else ((perms_has.f k a0 (([1, 2] : List Int))).bind fun t105 => (perms_Flags.j0 k a0 (!t105))))) = some (r1, r2) := h
  clear h
  have HC2 := Aside0.mk H
  clear H
  go_enter Tryd.func8, Tryd.ntmps8
  go_upto_region 1 with (fail)
  go_cut [16] (fun v16 wc => ∃ (kq : Nat) (x16_1 : Bool), v16 = .bool x16_1 ∧ Aside0 (perms_Flags.j0 kq a0 x16_1 = some (r1, r2)) ∧ Aside0 (kq ≤ k) ∧ Aside0 (Below w.heap.size w wc))
  case first =>
    have H := HC2.out
    clear HC2
    by_cases c3 : a0 < 0
    · rw [if_pos c3] at H
      have c3b0 : decide (a0 < 0) = true := decide_eq_true c3
      clear c3
      (first | rw [c3b0] | (simp only [i64_w, i32_w]; rw [c3b0]) | skip)
      have H' := Aside0.mk H
      clear H
      go_wp2
      go_meet
      case rel => exact ⟨_, (true), (by first | rfl | (simp; done) | (simp [*]; done)), H', ⟨by first | omega | exact Nat.le_refl _⟩, ⟨by repeat (first | (with_reducible first | exact HB.out | apply below_alloc | apply pw_below_drewN | apply below_drew1) | exact HB.out)⟩⟩
    · rw [if_neg c3] at H
      have c3b0 : decide (a0 < 0) = false := decide_eq_false c3
      clear c3
      (first | rw [c3b0] | (simp only [i64_w, i32_w]; rw [c3b0]) | skip)
      by_cases c4 : a0 > 31
      · rw [if_pos c4] at H
        have c4b0 : decide (31 < a0) = true := decide_eq_true c4
        clear c4
        have H' := Aside0.mk H
        clear H
        go_wp2
        go_meet
        case rel => exact ⟨_, (true), (by first | rfl | (simp; done) | (simp [*]; done)), H', ⟨by first | omega | exact Nat.le_refl _⟩, ⟨by repeat (first | (with_reducible first | exact HB.out | apply below_alloc | apply pw_below_drewN | apply below_drew1) | exact HB.out)⟩⟩
      · rw [if_neg c4] at H
        have c4b0 : decide (31 < a0) = false := decide_eq_false c4
        clear c4
        obtain ⟨y102, hy102⟩ : ∃ y_ : List Int, y_ = (([1, 2] : List Int)) := ⟨_, rfl⟩
        replace H : ((perms_has.f k a0 y102).bind fun t105 => (perms_Flags.j0 k a0 (!t105))) = some (r1, r2) := by first | (rw [hy102]; with_reducible exact H) | (have H2_ := (Option.bind_some _ _).symm.trans H; rw [hy102]; with_reducible exact H2_) | (have H2_ := (Option.bind_some _ _).symm.trans H; with_reducible exact H2_) | with_reducible exact H | (rw [hy102]; exact H) | exact H
        have Ny102 := Aside0.mk hy102
        clear hy102
        replace H := Option.bind_eq_some_iff.mp H
        obtain ⟨t105, A50, H⟩ := H
        replace H : (perms_Flags.j0 k a0 (!t105)) = some (r1, r2) := H
        have A5 := Aside0.mk A50
        clear A50
        have H' := Aside0.mk H
        clear H
        go_wp2_with (first | ((with_reducible refine gate_dst (N := 13) rfl ?_); (try (refine gate_guard (by rfl) ?_; dsimp only)); refine Kd.R_lit (Kd.int .i64) _ 3 ?hg (N := 13) ?hd (xs := ([1, 2] : List Int)) (inner := [.int .i64 1, .int .i64 2]) (ok := fun _ => True) (okp := fun _ => True) ?hr ?hp (fun _ hk => hk) trivial (Below.refl _ _) (Nat.le_refl _) (by simp) ?_; (case hd => rfl); (case hg => rfl); (case hr => first | (go_simp; done) | (go_simp; rfl)); (case hp => exact (Reps.one (show Kd.M (Kd.int .i64) _ _ _ 1 [.int .i64 1] from rfl) (Reps.one (show Kd.M (Kd.int .i64) _ _ _ 2 [.int .i64 2] from rfl) (Reps.none _ _)))); intro v103 w6 ho7 hb hg_ hnew_; clear hg_ hnew_; (first | rw [← Ny102.out] at ho7 | (simp only [Int.reduceToNat] at ho7; rw [← Ny102.out] at ho7)); have n0_ := Aside0.mk (Kd.R_lower ho7 (below_size (by repeat (first | (with_reducible first | exact HB.out | apply below_alloc | apply pw_below_drewN | apply below_drew1) | exact HB.out)))); have n1_ := Aside0.mk (below_step (by repeat (first | (with_reducible first | exact HB.out | apply below_alloc | apply pw_below_drewN | apply below_drew1) | exact HB.out)) hb); clear HB; have HO104 := n0_; have HB := n1_; clear n0_ n1_; clear hb ho7; obtain ⟨Ao8, co8, eo8⟩ := Kd.R_slice HO104.out; subst eo8) | (go_at_call 19; (with_reducible refine (perms_has.calls k a0 _ _ y102 t105 _ ?side1 ?side2 A5.out).mono ?_); (case side1 => repeat (first | exact (Kd.R_reads' HO104.out).2.2 | (with_reducible refine Kd.C_alloc ?_ _) | (with_reducible refine Kd.C_drewN ?_ _) | (with_reducible refine Kd.C_drew ?_))); (case side2 => exact (Kd.R_reads' HO104.out).2.1); rintro e w' ⟨rfl, ⟨nd, rfl⟩⟩))
        go_meet
        case rel => exact ⟨_, (!t105), (by first | rfl | (simp; done) | (simp [*]; done)), H', ⟨by first | omega | exact Nat.le_refl _⟩, ⟨by repeat (first | (with_reducible first | exact HB.out | apply below_alloc | apply pw_below_drewN | apply below_drew1) | exact HB.out)⟩⟩
  case rest =>
    clear HC2
    try clear p2
    try clear c3
    try clear c3b0
    try clear c4
    try clear c4b0
    try clear c8
    obtain ⟨kq, x16_1, rfl, HA, HJ1, HB⟩ := hcut
    cases kq with
    | zero => exact absurd HA.out (by simp [perms_Flags.j0])
    | succ kj1 =>
      have H := HA.out
      clear HA
      simp only [perms_Flags.j0] at H
      by_cases c9 : x16_1 = true
      · subst c9
        have H1 : (some (0, false)) = some (r1, r2) := by rw [if_pos rfl] at H; exact H
        clear H
        have H := H1
        clear H1
        simp only [Option.some.injEq, Prod.mk.injEq] at H
        obtain ⟨rfl, rfl⟩ := H
        go_wp2
        go_ret2
        exact ⟨by first | rfl | (simp [errW_none, errW_some] <;> rfl) | (simp [*, errW_none, errW_some] <;> rfl), by repeat (first | (with_reducible first | exact HB.out | apply below_alloc | apply pw_below_drewN | apply below_drew1) | exact HB.out)⟩
      · replace c9 := Bool.eq_false_iff.mpr c9
        subst c9
        have H1 : ((perms_has.f kj1 a0 (([1] : List Int))).bind fun t109 => (if t109 = true then ((perms_has.f kj1 a0 (([2, 16] : List Int))).bind fun t113 => (if t113 = true then (some (Go.bits .or .i64 (Go.bits .or .i64 0 4) 2, true)) else (some (Go.bits .or .i64 0 4, true)))) else ((perms_has.f kj1 a0 (([2, 16] : List Int))).bind fun t117 => (if t117 = true then (some (Go.bits .or .i64 0 2, true)) else (some (0, true)))))) = some (r1, r2) := by rw [if_neg (show ¬ (false = true) by decide)] at H; exact H
        clear H
        have H := H1
        clear H1
        obtain ⟨y106, hy106⟩ : ∃ y_ : List Int, y_ = (([1] : List Int)) := ⟨_, rfl⟩
        replace H : ((perms_has.f kj1 a0 y106).bind fun t109 => (if t109 = true then ((perms_has.f kj1 a0 (([2, 16] : List Int))).bind fun t113 => (if t113 = true then (some (Go.bits .or .i64 (Go.bits .or .i64 0 4) 2, true)) else (some (Go.bits .or .i64 0 4, true)))) else ((perms_has.f kj1 a0 (([2, 16] : List Int))).bind fun t117 => (if t117 = true then (some (Go.bits .or .i64 0 2, true)) else (some (0, true)))))) = some (r1, r2) := by first | (rw [hy106]; with_reducible exact H) | (have H2_ := (Option.bind_some _ _).symm.trans H; rw [hy106]; with_reducible exact H2_) | (have H2_ := (Option.bind_some _ _).symm.trans H; with_reducible exact H2_) | with_reducible exact H | (rw [hy106]; exact H) | exact H
        have Ny106 := Aside0.mk hy106
        clear hy106
        replace H := Option.bind_eq_some_iff.mp H
        obtain ⟨t109, A100, H⟩ := H
        replace H : (if t109 = true then ((perms_has.f kj1 a0 (([2, 16] : List Int))).bind fun t113 => (if t113 = true then (some (Go.bits .or .i64 (Go.bits .or .i64 0 4) 2, true)) else (some (Go.bits .or .i64 0 4, true)))) else ((perms_has.f kj1 a0 (([2, 16] : List Int))).bind fun t117 => (if t117 = true then (some (Go.bits .or .i64 0 2, true)) else (some (0, true))))) = some (r1, r2) := H
        have A10 := Aside0.mk A100
        clear A100
        by_cases c11 : t109 = true
        · subst c11
          have H1 : ((perms_has.f kj1 a0 (([2, 16] : List Int))).bind fun t113 => (if t113 = true then (some (Go.bits .or .i64 (Go.bits .or .i64 0 4) 2, true)) else (some (Go.bits .or .i64 0 4, true)))) = some (r1, r2) := by rw [if_pos rfl] at H; exact H
          clear H
          have H := H1
          clear H1
          obtain ⟨y110, hy110⟩ : ∃ y_ : List Int, y_ = (([2, 16] : List Int)) := ⟨_, rfl⟩
          replace H : ((perms_has.f kj1 a0 y110).bind fun t113 => (if t113 = true then (some (Go.bits .or .i64 (Go.bits .or .i64 0 4) 2, true)) else (some (Go.bits .or .i64 0 4, true)))) = some (r1, r2) := by first | (rw [hy110]; with_reducible exact H) | (have H2_ := (Option.bind_some _ _).symm.trans H; rw [hy110]; with_reducible exact H2_) | (have H2_ := (Option.bind_some _ _).symm.trans H; with_reducible exact H2_) | with_reducible exact H | (rw [hy110]; exact H) | exact H
          have Ny110 := Aside0.mk hy110
          clear hy110
          replace H := Option.bind_eq_some_iff.mp H
          obtain ⟨t113, A120, H⟩ := H
          replace H : (if t113 = true then (some (Go.bits .or .i64 (Go.bits .or .i64 0 4) 2, true)) else (some (Go.bits .or .i64 0 4, true))) = some (r1, r2) := H
          have A12 := Aside0.mk A120
          clear A120
          by_cases c13 : t113 = true
          · subst c13
            have H1 : (some (Go.bits .or .i64 (Go.bits .or .i64 0 4) 2, true)) = some (r1, r2) := by rw [if_pos rfl] at H; exact H
            clear H
            have H := H1
            clear H1
            simp only [Option.some.injEq, Prod.mk.injEq] at H
            obtain ⟨rfl, rfl⟩ := H
            go_wp2_with (first | ((with_reducible refine gate_dst (N := 18) rfl ?_); (try (refine gate_guard (by rfl) ?_; dsimp only)); refine Kd.R_lit (Kd.int .i64) _ 3 ?hg (N := 18) ?hd (xs := ([1] : List Int)) (inner := [.int .i64 1]) (ok := fun _ => True) (okp := fun _ => True) ?hr ?hp (fun _ hk => hk) trivial (Below.refl _ _) (Nat.le_refl _) (by simp) ?_; (case hd => rfl); (case hg => rfl); (case hr => first | (go_simp; done) | (go_simp; rfl)); (case hp => exact (Reps.one (show Kd.M (Kd.int .i64) _ _ _ 1 [.int .i64 1] from rfl) (Reps.none _ _))); intro v107 w14 ho15 hb hg_ hnew_; clear hg_ hnew_; (first | rw [← Ny106.out] at ho15 | (simp only [Int.reduceToNat] at ho15; rw [← Ny106.out] at ho15)); have n0_ := Aside0.mk (Kd.R_lower ho15 (below_size (by repeat (first | (with_reducible first | exact HB.out | apply below_alloc | apply pw_below_drewN | apply below_drew1) | exact HB.out)))); have n1_ := Aside0.mk (below_step (by repeat (first | (with_reducible first | exact HB.out | apply below_alloc | apply pw_below_drewN | apply below_drew1) | exact HB.out)) hb); clear HB; have HO108 := n0_; have HB := n1_; clear n0_ n1_; clear hb ho15; obtain ⟨Ao16, co16, eo16⟩ := Kd.R_slice HO108.out; subst eo16) | ((with_reducible refine gate_callee (f := 19) rfl ?_); refine goesL_ (some 19) rfl rfl Tryd.func19 (by kernel_rfl) rfl #[.int .i64 a0, .slice Ao16 y106.length co16] rfl (by (try simp only [List.map_toArray, List.map_cons, List.map_nil]); first | done | rfl | (simp only [List.length_drop, List.length_take]; rfl)) ?_; (with_reducible refine (perms_has.calls kj1 a0 _ _ y106 true _ ?side1 ?side2 A10.out).mono ?_); (case side1 => repeat (first | exact (Kd.R_reads' HO108.out).2.2 | (with_reducible refine Kd.C_alloc ?_ _) | (with_reducible refine Kd.C_drewN ?_ _) | (with_reducible refine Kd.C_drew ?_))); (case side2 => exact (Kd.R_reads' HO108.out).2.1); rintro e w' ⟨rfl, ⟨nd, rfl⟩⟩; refine ⟨_, rfl, ?_⟩) | ((with_reducible refine gate_dst (N := 23) rfl ?_); (try (refine gate_guard (by rfl) ?_; dsimp only)); refine Kd.R_lit (Kd.int .i64) _ 3 ?hg (N := 23) ?hd (xs := ([2, 16] : List Int)) (inner := [.int .i64 2, .int .i64 16]) (ok := fun _ => True) (okp := fun _ => True) ?hr ?hp (fun _ hk => hk) trivial (Below.refl _ _) (Nat.le_refl _) (by simp) ?_; (case hd => rfl); (case hg => rfl); (case hr => first | (go_simp; done) | (go_simp; rfl)); (case hp => exact (Reps.one (show Kd.M (Kd.int .i64) _ _ _ 2 [.int .i64 2] from rfl) (Reps.one (show Kd.M (Kd.int .i64) _ _ _ 16 [.int .i64 16] from rfl) (Reps.none _ _)))); intro v111 w17 ho18 hb hg_ hnew_; clear hg_ hnew_; (first | rw [← Ny110.out] at ho18 | (simp only [Int.reduceToNat] at ho18; rw [← Ny110.out] at ho18)); have n0_ := Aside0.mk (Kd.R_elder' (by (with_reducible repeat (first | apply Kd.R_alloc | apply Kd.R_drewN | apply Kd.R_drew)); exact HO108.out) (Kd.R_base ho18) hb); have n1_ := Aside0.mk (Kd.R_lower (Kd.R_new' ho18 (Kd.R_lt (by (with_reducible repeat (first | apply Kd.R_alloc | apply Kd.R_drewN | apply Kd.R_drew)); exact HO108.out))) (below_size (by repeat (first | (with_reducible first | exact HB.out | apply below_alloc | apply pw_below_drewN | apply below_drew1) | exact HB.out)))); have n2_ := Aside0.mk (below_step (by repeat (first | (with_reducible first | exact HB.out | apply below_alloc | apply pw_below_drewN | apply below_drew1) | exact HB.out)) hb); clear HO108; clear HB; have HO108 := n0_; have HO112 := n1_; have HB := n2_; clear n0_ n1_ n2_; clear hb ho18; obtain ⟨Ao19, co19, eo19⟩ := Kd.R_slice HO112.out; subst eo19) | ((with_reducible refine gate_callee (f := 19) rfl ?_); refine goesL_ (some 24) rfl rfl Tryd.func19 (by kernel_rfl) rfl #[.int .i64 a0, .slice Ao19 y110.length co19] rfl (by (try simp only [List.map_toArray, List.map_cons, List.map_nil]); first | done | rfl | (simp only [List.length_drop, List.length_take]; rfl)) ?_; (with_reducible refine (perms_has.calls kj1 a0 _ _ y110 true _ ?side1 ?side2 A12.out).mono ?_); (case side1 => repeat (first | exact (Kd.R_reads' HO112.out).2.2 | (with_reducible refine Kd.C_alloc ?_ _) | (with_reducible refine Kd.C_drewN ?_ _) | (with_reducible refine Kd.C_drew ?_))); (case side2 => exact (Kd.R_reads' HO112.out).2.1); rintro e w' ⟨rfl, ⟨nd, rfl⟩⟩; refine ⟨_, rfl, ?_⟩))
            go_ret2
            exact ⟨by first | rfl | (simp [errW_none, errW_some] <;> rfl) | (simp [*, errW_none, errW_some] <;> rfl), by repeat (first | (with_reducible first | exact HB.out | apply below_alloc | apply pw_below_drewN | apply below_drew1) | exact HB.out)⟩
          · replace c13 := Bool.eq_false_iff.mpr c13
            subst c13
            have H1 : (some (Go.bits .or .i64 0 4, true)) = some (r1, r2) := by rw [if_neg (show ¬ (false = true) by decide)] at H; exact H
            clear H
            have H := H1
            clear H1
            simp only [Option.some.injEq, Prod.mk.injEq] at H
            obtain ⟨rfl, rfl⟩ := H
            go_wp2_with (first | ((with_reducible refine gate_dst (N := 18) rfl ?_); (try (refine gate_guard (by rfl) ?_; dsimp only)); refine Kd.R_lit (Kd.int .i64) _ 3 ?hg (N := 18) ?hd (xs := ([1] : List Int)) (inner := [.int .i64 1]) (ok := fun _ => True) (okp := fun _ => True) ?hr ?hp (fun _ hk => hk) trivial (Below.refl _ _) (Nat.le_refl _) (by simp) ?_; (case hd => rfl); (case hg => rfl); (case hr => first | (go_simp; done) | (go_simp; rfl)); (case hp => exact (Reps.one (show Kd.M (Kd.int .i64) _ _ _ 1 [.int .i64 1] from rfl) (Reps.none _ _))); intro v107 w20 ho21 hb hg_ hnew_; clear hg_ hnew_; (first | rw [← Ny106.out] at ho21 | (simp only [Int.reduceToNat] at ho21; rw [← Ny106.out] at ho21)); have n0_ := Aside0.mk (Kd.R_lower ho21 (below_size (by repeat (first | (with_reducible first | exact HB.out | apply below_alloc | apply pw_below_drewN | apply below_drew1) | exact HB.out)))); have n1_ := Aside0.mk (below_step (by repeat (first | (with_reducible first | exact HB.out | apply below_alloc | apply pw_below_drewN | apply below_drew1) | exact HB.out)) hb); clear HB; have HO108 := n0_; have HB := n1_; clear n0_ n1_; clear hb ho21; obtain ⟨Ao22, co22, eo22⟩ := Kd.R_slice HO108.out; subst eo22) | ((with_reducible refine gate_callee (f := 19) rfl ?_); refine goesL_ (some 19) rfl rfl Tryd.func19 (by kernel_rfl) rfl #[.int .i64 a0, .slice Ao22 y106.length co22] rfl (by (try simp only [List.map_toArray, List.map_cons, List.map_nil]); first | done | rfl | (simp only [List.length_drop, List.length_take]; rfl)) ?_; (with_reducible refine (perms_has.calls kj1 a0 _ _ y106 true _ ?side1 ?side2 A10.out).mono ?_); (case side1 => repeat (first | exact (Kd.R_reads' HO108.out).2.2 | (with_reducible refine Kd.C_alloc ?_ _) | (with_reducible refine Kd.C_drewN ?_ _) | (with_reducible refine Kd.C_drew ?_))); (case side2 => exact (Kd.R_reads' HO108.out).2.1); rintro e w' ⟨rfl, ⟨nd, rfl⟩⟩; refine ⟨_, rfl, ?_⟩) | ((with_reducible refine gate_dst (N := 23) rfl ?_); (try (refine gate_guard (by rfl) ?_; dsimp only)); refine Kd.R_lit (Kd.int .i64) _ 3 ?hg (N := 23) ?hd (xs := ([2, 16] : List Int)) (inner := [.int .i64 2, .int .i64 16]) (ok := fun _ => True) (okp := fun _ => True) ?hr ?hp (fun _ hk => hk) trivial (Below.refl _ _) (Nat.le_refl _) (by simp) ?_; (case hd => rfl); (case hg => rfl); (case hr => first | (go_simp; done) | (go_simp; rfl)); (case hp => exact (Reps.one (show Kd.M (Kd.int .i64) _ _ _ 2 [.int .i64 2] from rfl) (Reps.one (show Kd.M (Kd.int .i64) _ _ _ 16 [.int .i64 16] from rfl) (Reps.none _ _)))); intro v111 w23 ho24 hb hg_ hnew_; clear hg_ hnew_; (first | rw [← Ny110.out] at ho24 | (simp only [Int.reduceToNat] at ho24; rw [← Ny110.out] at ho24)); have n0_ := Aside0.mk (Kd.R_elder' (by (with_reducible repeat (first | apply Kd.R_alloc | apply Kd.R_drewN | apply Kd.R_drew)); exact HO108.out) (Kd.R_base ho24) hb); have n1_ := Aside0.mk (Kd.R_lower (Kd.R_new' ho24 (Kd.R_lt (by (with_reducible repeat (first | apply Kd.R_alloc | apply Kd.R_drewN | apply Kd.R_drew)); exact HO108.out))) (below_size (by repeat (first | (with_reducible first | exact HB.out | apply below_alloc | apply pw_below_drewN | apply below_drew1) | exact HB.out)))); have n2_ := Aside0.mk (below_step (by repeat (first | (with_reducible first | exact HB.out | apply below_alloc | apply pw_below_drewN | apply below_drew1) | exact HB.out)) hb); clear HO108; clear HB; have HO108 := n0_; have HO112 := n1_; have HB := n2_; clear n0_ n1_ n2_; clear hb ho24; obtain ⟨Ao25, co25, eo25⟩ := Kd.R_slice HO112.out; subst eo25) | ((with_reducible refine gate_callee (f := 19) rfl ?_); refine goesL_ (some 24) rfl rfl Tryd.func19 (by kernel_rfl) rfl #[.int .i64 a0, .slice Ao25 y110.length co25] rfl (by (try simp only [List.map_toArray, List.map_cons, List.map_nil]); first | done | rfl | (simp only [List.length_drop, List.length_take]; rfl)) ?_; (with_reducible refine (perms_has.calls kj1 a0 _ _ y110 false _ ?side1 ?side2 A12.out).mono ?_); (case side1 => repeat (first | exact (Kd.R_reads' HO112.out).2.2 | (with_reducible refine Kd.C_alloc ?_ _) | (with_reducible refine Kd.C_drewN ?_ _) | (with_reducible refine Kd.C_drew ?_))); (case side2 => exact (Kd.R_reads' HO112.out).2.1); rintro e w' ⟨rfl, ⟨nd, rfl⟩⟩; refine ⟨_, rfl, ?_⟩))
            go_ret2
            exact ⟨by first | rfl | (simp [errW_none, errW_some] <;> rfl) | (simp [*, errW_none, errW_some] <;> rfl), by repeat (first | (with_reducible first | exact HB.out | apply below_alloc | apply pw_below_drewN | apply below_drew1) | exact HB.out)⟩
        · replace c11 := Bool.eq_false_iff.mpr c11
          subst c11
          have H1 : ((perms_has.f kj1 a0 (([2, 16] : List Int))).bind fun t117 => (if t117 = true then (some (Go.bits .or .i64 0 2, true)) else (some (0, true)))) = some (r1, r2) := by rw [if_neg (show ¬ (false = true) by decide)] at H; exact H
          clear H
          have H := H1
          clear H1
          obtain ⟨y114, hy114⟩ : ∃ y_ : List Int, y_ = (([2, 16] : List Int)) := ⟨_, rfl⟩
          replace H : ((perms_has.f kj1 a0 y114).bind fun t117 => (if t117 = true then (some (Go.bits .or .i64 0 2, true)) else (some (0, true)))) = some (r1, r2) := by first | (rw [hy114]; with_reducible exact H) | (have H2_ := (Option.bind_some _ _).symm.trans H; rw [hy114]; with_reducible exact H2_) | (have H2_ := (Option.bind_some _ _).symm.trans H; with_reducible exact H2_) | with_reducible exact H | (rw [hy114]; exact H) | exact H
          have Ny114 := Aside0.mk hy114
          clear hy114
          replace H := Option.bind_eq_some_iff.mp H
          obtain ⟨t117, A260, H⟩ := H
          replace H : (if t117 = true then (some (Go.bits .or .i64 0 2, true)) else (some (0, true))) = some (r1, r2) := H
          have A26 := Aside0.mk A260
          clear A260
          by_cases c27 : t117 = true
          · subst c27
            have H1 : (some (Go.bits .or .i64 0 2, true)) = some (r1, r2) := by rw [if_pos rfl] at H; exact H
            clear H
            have H := H1
            clear H1
            simp only [Option.some.injEq, Prod.mk.injEq] at H
            obtain ⟨rfl, rfl⟩ := H
            go_wp2_with (first | ((with_reducible refine gate_dst (N := 18) rfl ?_); (try (refine gate_guard (by rfl) ?_; dsimp only)); refine Kd.R_lit (Kd.int .i64) _ 3 ?hg (N := 18) ?hd (xs := ([1] : List Int)) (inner := [.int .i64 1]) (ok := fun _ => True) (okp := fun _ => True) ?hr ?hp (fun _ hk => hk) trivial (Below.refl _ _) (Nat.le_refl _) (by simp) ?_; (case hd => rfl); (case hg => rfl); (case hr => first | (go_simp; done) | (go_simp; rfl)); (case hp => exact (Reps.one (show Kd.M (Kd.int .i64) _ _ _ 1 [.int .i64 1] from rfl) (Reps.none _ _))); intro v107 w28 ho29 hb hg_ hnew_; clear hg_ hnew_; (first | rw [← Ny106.out] at ho29 | (simp only [Int.reduceToNat] at ho29; rw [← Ny106.out] at ho29)); have n0_ := Aside0.mk (Kd.R_lower ho29 (below_size (by repeat (first | (with_reducible first | exact HB.out | apply below_alloc | apply pw_below_drewN | apply below_drew1) | exact HB.out)))); have n1_ := Aside0.mk (below_step (by repeat (first | (with_reducible first | exact HB.out | apply below_alloc | apply pw_below_drewN | apply below_drew1) | exact HB.out)) hb); clear HB; have HO108 := n0_; have HB := n1_; clear n0_ n1_; clear hb ho29; obtain ⟨Ao30, co30, eo30⟩ := Kd.R_slice HO108.out; subst eo30) | ((with_reducible refine gate_callee (f := 19) rfl ?_); refine goesL_ (some 19) rfl rfl Tryd.func19 (by kernel_rfl) rfl #[.int .i64 a0, .slice Ao30 y106.length co30] rfl (by (try simp only [List.map_toArray, List.map_cons, List.map_nil]); first | done | rfl | (simp only [List.length_drop, List.length_take]; rfl)) ?_; (with_reducible refine (perms_has.calls kj1 a0 _ _ y106 false _ ?side1 ?side2 A10.out).mono ?_); (case side1 => repeat (first | exact (Kd.R_reads' HO108.out).2.2 | (with_reducible refine Kd.C_alloc ?_ _) | (with_reducible refine Kd.C_drewN ?_ _) | (with_reducible refine Kd.C_drew ?_))); (case side2 => exact (Kd.R_reads' HO108.out).2.1); rintro e w' ⟨rfl, ⟨nd, rfl⟩⟩; refine ⟨_, rfl, ?_⟩) | ((with_reducible refine gate_dst (N := 23) rfl ?_); (try (refine gate_guard (by rfl) ?_; dsimp only)); refine Kd.R_lit (Kd.int .i64) _ 3 ?hg (N := 23) ?hd (xs := ([2, 16] : List Int)) (inner := [.int .i64 2, .int .i64 16]) (ok := fun _ => True) (okp := fun _ => True) ?hr ?hp (fun _ hk => hk) trivial (Below.refl _ _) (Nat.le_refl _) (by simp) ?_; (case hd => rfl); (case hg => rfl); (case hr => first | (go_simp; done) | (go_simp; rfl)); (case hp => exact (Reps.one (show Kd.M (Kd.int .i64) _ _ _ 2 [.int .i64 2] from rfl) (Reps.one (show Kd.M (Kd.int .i64) _ _ _ 16 [.int .i64 16] from rfl) (Reps.none _ _)))); intro v115 w31 ho32 hb hg_ hnew_; clear hg_ hnew_; (first | rw [← Ny114.out] at ho32 | (simp only [Int.reduceToNat] at ho32; rw [← Ny114.out] at ho32)); have n0_ := Aside0.mk (Kd.R_elder' (by (with_reducible repeat (first | apply Kd.R_alloc | apply Kd.R_drewN | apply Kd.R_drew)); exact HO108.out) (Kd.R_base ho32) hb); have n1_ := Aside0.mk (Kd.R_lower (Kd.R_new' ho32 (Kd.R_lt (by (with_reducible repeat (first | apply Kd.R_alloc | apply Kd.R_drewN | apply Kd.R_drew)); exact HO108.out))) (below_size (by repeat (first | (with_reducible first | exact HB.out | apply below_alloc | apply pw_below_drewN | apply below_drew1) | exact HB.out)))); have n2_ := Aside0.mk (below_step (by repeat (first | (with_reducible first | exact HB.out | apply below_alloc | apply pw_below_drewN | apply below_drew1) | exact HB.out)) hb); clear HO108; clear HB; have HO108 := n0_; have HO116 := n1_; have HB := n2_; clear n0_ n1_ n2_; clear hb ho32; obtain ⟨Ao33, co33, eo33⟩ := Kd.R_slice HO116.out; subst eo33) | ((with_reducible refine gate_callee (f := 19) rfl ?_); refine goesL_ (some 24) rfl rfl Tryd.func19 (by kernel_rfl) rfl #[.int .i64 a0, .slice Ao33 y114.length co33] rfl (by (try simp only [List.map_toArray, List.map_cons, List.map_nil]); first | done | rfl | (simp only [List.length_drop, List.length_take]; rfl)) ?_; (with_reducible refine (perms_has.calls kj1 a0 _ _ y114 true _ ?side1 ?side2 A26.out).mono ?_); (case side1 => repeat (first | exact (Kd.R_reads' HO116.out).2.2 | (with_reducible refine Kd.C_alloc ?_ _) | (with_reducible refine Kd.C_drewN ?_ _) | (with_reducible refine Kd.C_drew ?_))); (case side2 => exact (Kd.R_reads' HO116.out).2.1); rintro e w' ⟨rfl, ⟨nd, rfl⟩⟩; refine ⟨_, rfl, ?_⟩))
            go_ret2
            exact ⟨by first | rfl | (simp [errW_none, errW_some] <;> rfl) | (simp [*, errW_none, errW_some] <;> rfl), by repeat (first | (with_reducible first | exact HB.out | apply below_alloc | apply pw_below_drewN | apply below_drew1) | exact HB.out)⟩
          · replace c27 := Bool.eq_false_iff.mpr c27
            subst c27
            have H1 : (some (0, true)) = some (r1, r2) := by rw [if_neg (show ¬ (false = true) by decide)] at H; exact H
            clear H
            have H := H1
            clear H1
            simp only [Option.some.injEq, Prod.mk.injEq] at H
            obtain ⟨rfl, rfl⟩ := H
            go_wp2_with (first | ((with_reducible refine gate_dst (N := 18) rfl ?_); (try (refine gate_guard (by rfl) ?_; dsimp only)); refine Kd.R_lit (Kd.int .i64) _ 3 ?hg (N := 18) ?hd (xs := ([1] : List Int)) (inner := [.int .i64 1]) (ok := fun _ => True) (okp := fun _ => True) ?hr ?hp (fun _ hk => hk) trivial (Below.refl _ _) (Nat.le_refl _) (by simp) ?_; (case hd => rfl); (case hg => rfl); (case hr => first | (go_simp; done) | (go_simp; rfl)); (case hp => exact (Reps.one (show Kd.M (Kd.int .i64) _ _ _ 1 [.int .i64 1] from rfl) (Reps.none _ _))); intro v107 w34 ho35 hb hg_ hnew_; clear hg_ hnew_; (first | rw [← Ny106.out] at ho35 | (simp only [Int.reduceToNat] at ho35; rw [← Ny106.out] at ho35)); have n0_ := Aside0.mk (Kd.R_lower ho35 (below_size (by repeat (first | (with_reducible first | exact HB.out | apply below_alloc | apply pw_below_drewN | apply below_drew1) | exact HB.out)))); have n1_ := Aside0.mk (below_step (by repeat (first | (with_reducible first | exact HB.out | apply below_alloc | apply pw_below_drewN | apply below_drew1) | exact HB.out)) hb); clear HB; have HO108 := n0_; have HB := n1_; clear n0_ n1_; clear hb ho35; obtain ⟨Ao36, co36, eo36⟩ := Kd.R_slice HO108.out; subst eo36) | ((with_reducible refine gate_callee (f := 19) rfl ?_); refine goesL_ (some 19) rfl rfl Tryd.func19 (by kernel_rfl) rfl #[.int .i64 a0, .slice Ao36 y106.length co36] rfl (by (try simp only [List.map_toArray, List.map_cons, List.map_nil]); first | done | rfl | (simp only [List.length_drop, List.length_take]; rfl)) ?_; (with_reducible refine (perms_has.calls kj1 a0 _ _ y106 false _ ?side1 ?side2 A10.out).mono ?_); (case side1 => repeat (first | exact (Kd.R_reads' HO108.out).2.2 | (with_reducible refine Kd.C_alloc ?_ _) | (with_reducible refine Kd.C_drewN ?_ _) | (with_reducible refine Kd.C_drew ?_))); (case side2 => exact (Kd.R_reads' HO108.out).2.1); rintro e w' ⟨rfl, ⟨nd, rfl⟩⟩; refine ⟨_, rfl, ?_⟩) | ((with_reducible refine gate_dst (N := 23) rfl ?_); (try (refine gate_guard (by rfl) ?_; dsimp only)); refine Kd.R_lit (Kd.int .i64) _ 3 ?hg (N := 23) ?hd (xs := ([2, 16] : List Int)) (inner := [.int .i64 2, .int .i64 16]) (ok := fun _ => True) (okp := fun _ => True) ?hr ?hp (fun _ hk => hk) trivial (Below.refl _ _) (Nat.le_refl _) (by simp) ?_; (case hd => rfl); (case hg => rfl); (case hr => first | (go_simp; done) | (go_simp; rfl)); (case hp => exact (Reps.one (show Kd.M (Kd.int .i64) _ _ _ 2 [.int .i64 2] from rfl) (Reps.one (show Kd.M (Kd.int .i64) _ _ _ 16 [.int .i64 16] from rfl) (Reps.none _ _)))); intro v115 w37 ho38 hb hg_ hnew_; clear hg_ hnew_; (first | rw [← Ny114.out] at ho38 | (simp only [Int.reduceToNat] at ho38; rw [← Ny114.out] at ho38)); have n0_ := Aside0.mk (Kd.R_elder' (by (with_reducible repeat (first | apply Kd.R_alloc | apply Kd.R_drewN | apply Kd.R_drew)); exact HO108.out) (Kd.R_base ho38) hb); have n1_ := Aside0.mk (Kd.R_lower (Kd.R_new' ho38 (Kd.R_lt (by (with_reducible repeat (first | apply Kd.R_alloc | apply Kd.R_drewN | apply Kd.R_drew)); exact HO108.out))) (below_size (by repeat (first | (with_reducible first | exact HB.out | apply below_alloc | apply pw_below_drewN | apply below_drew1) | exact HB.out)))); have n2_ := Aside0.mk (below_step (by repeat (first | (with_reducible first | exact HB.out | apply below_alloc | apply pw_below_drewN | apply below_drew1) | exact HB.out)) hb); clear HO108; clear HB; have HO108 := n0_; have HO116 := n1_; have HB := n2_; clear n0_ n1_ n2_; clear hb ho38; obtain ⟨Ao39, co39, eo39⟩ := Kd.R_slice HO116.out; subst eo39) | ((with_reducible refine gate_callee (f := 19) rfl ?_); refine goesL_ (some 24) rfl rfl Tryd.func19 (by kernel_rfl) rfl #[.int .i64 a0, .slice Ao39 y114.length co39] rfl (by (try simp only [List.map_toArray, List.map_cons, List.map_nil]); first | done | rfl | (simp only [List.length_drop, List.length_take]; rfl)) ?_; (with_reducible refine (perms_has.calls kj1 a0 _ _ y114 false _ ?side1 ?side2 A26.out).mono ?_); (case side1 => repeat (first | exact (Kd.R_reads' HO116.out).2.2 | (with_reducible refine Kd.C_alloc ?_ _) | (with_reducible refine Kd.C_drewN ?_ _) | (with_reducible refine Kd.C_drew ?_))); (case side2 => exact (Kd.R_reads' HO116.out).2.1); rintro e w' ⟨rfl, ⟨nd, rfl⟩⟩; refine ⟨_, rfl, ?_⟩))
            go_ret2
            exact ⟨by first | rfl | (simp [errW_none, errW_some] <;> rfl) | (simp [*, errW_none, errW_some] <;> rfl), by repeat (first | (with_reducible first | exact HB.out | apply below_alloc | apply pw_below_drewN | apply below_drew1) | exact HB.out)⟩

/-! ### perms_Prot: function 10 -/
def perms_Prot.f (k : Nat) (a0 : Int) (a1 : Bool) (a2 : Bool) : Option (Bool) := if a1 = true then (if a2 = true then (some true) else ((perms_has.f k a0 (([2] : List Int))).bind fun t121 => (some (!t121)))) else (some false)
theorem perms_Prot.mono : ∀ a0 a1 a2 k, LeO (perms_Prot.f k a0 a1 a2) (perms_Prot.f (k + 1) a0 a1 a2) := by
  intro a0 a1 a2 k
  unfold perms_Prot.f
  repeat' first
      | (with_reducible exact perms_has.mono _ _ _)
      | (with_reducible exact LeO.refl _)
      | (with_reducible exact LeO.none _)
      | (with_reducible refine LeO.ite ?_ ?_)
      | (with_reducible refine LeO.bind ?_ (fun _ => ?_))
      | exact perms_has.mono _ _ _
      | exact LeO.none _
      | refine LeO.ite ?_ ?_
      | refine LeO.bind ?_ (fun _ => ?_)
set_option maxHeartbeats 8000000 in
set_option maxRecDepth 100000 in
theorem perms_Prot.calls (k : Nat) (a0 : Int) (a1 : Bool) (a2 : Bool) (r : Bool) (w : World) (h : perms_Prot.f k a0 a1 a2 = some r) :
    Calls Tryd.prog 10 #[.int .i64 a0, .bool a1, .bool a2] w fun e w' => e = .returned (.bool r) ∧ Below w.heap.size w w' := by
  have HB := Aside0.mk (Below.refl w.heap.size w)
  have H : (if a1 = true then (if a2 = true then (some true) else ((perms_has.f k a0 (([2] : List Int))).bind fun t121 => (some (!t121)))) else (some false)) = some r := h
  clear h
  by_cases c4 : a1 = true
  · subst c4
    have H1 : (if a2 = true then (some true) else ((perms_has.f k a0 (([2] : List Int))).bind fun t121 => (some (!t121)))) = some r := by rw [if_pos rfl] at H; exact H
    clear H
    have H := H1
    clear H1
    by_cases c5 : a2 = true
    · subst c5
      have H1 : (some true) = some r := by rw [if_pos rfl] at H; exact H
      clear H
      have H := H1
      clear H1
      obtain rfl := Option.some.inj H
      go_enter Tryd.func10, Tryd.ntmps10
      go_wp2
      go_ret
      exact ⟨by first | rfl | (simp [errW_none, errW_some] <;> rfl) | (simp [*, errW_none, errW_some] <;> rfl), by repeat (first | (with_reducible first | exact HB.out | apply below_alloc | apply pw_below_drewN | apply below_drew1) | exact HB.out)⟩
    · replace c5 := Bool.eq_false_iff.mpr c5
      subst c5
      have H1 : ((perms_has.f k a0 (([2] : List Int))).bind fun t121 => (some (!t121))) = some r := by rw [if_neg (show ¬ (false = true) by decide)] at H; exact H
      clear H
      have H := H1
      clear H1
      obtain ⟨y118, hy118⟩ : ∃ y_ : List Int, y_ = (([2] : List Int)) := ⟨_, rfl⟩
      replace H : ((perms_has.f k a0 y118).bind fun t121 => (some (!t121))) = some r := by first | (rw [hy118]; with_reducible exact H) | (have H2_ := (Option.bind_some _ _).symm.trans H; rw [hy118]; with_reducible exact H2_) | (have H2_ := (Option.bind_some _ _).symm.trans H; with_reducible exact H2_) | with_reducible exact H | (rw [hy118]; exact H) | exact H
      have Ny118 := Aside0.mk hy118
      clear hy118
      replace H := Option.bind_eq_some_iff.mp H
      obtain ⟨t121, A60, H⟩ := H
      replace H : (some (!t121)) = some r := H
      have A6 := Aside0.mk A60
      clear A60
      obtain rfl := Option.some.inj H
      go_enter Tryd.func10, Tryd.ntmps10
      go_wp2_with (first | ((with_reducible refine gate_dst (N := 12) rfl ?_); (try (refine gate_guard (by rfl) ?_; dsimp only)); refine Kd.R_lit (Kd.int .i64) _ 3 ?hg (N := 12) ?hd (xs := ([2] : List Int)) (inner := [.int .i64 2]) (ok := fun _ => True) (okp := fun _ => True) ?hr ?hp (fun _ hk => hk) trivial (Below.refl _ _) (Nat.le_refl _) (by simp) ?_; (case hd => rfl); (case hg => rfl); (case hr => first | (go_simp; done) | (go_simp; rfl)); (case hp => exact (Reps.one (show Kd.M (Kd.int .i64) _ _ _ 2 [.int .i64 2] from rfl) (Reps.none _ _))); intro v119 w7 ho8 hb hg_ hnew_; clear hg_ hnew_; (first | rw [← Ny118.out] at ho8 | (simp only [Int.reduceToNat] at ho8; rw [← Ny118.out] at ho8)); have n0_ := Aside0.mk (Kd.R_lower ho8 (below_size (by repeat (first | (with_reducible first | exact HB.out | apply below_alloc | apply pw_below_drewN | apply below_drew1) | exact HB.out)))); have n1_ := Aside0.mk (below_step (by repeat (first | (with_reducible first | exact HB.out | apply below_alloc | apply pw_below_drewN | apply below_drew1) | exact HB.out)) hb); clear HB; have HO120 := n0_; have HB := n1_; clear n0_ n1_; clear hb ho8; obtain ⟨Ao9, co9, eo9⟩ := Kd.R_slice HO120.out; subst eo9) | (go_at_call 19; (with_reducible refine (perms_has.calls k a0 _ _ y118 t121 _ ?side1 ?side2 A6.out).mono ?_); (case side1 => repeat (first | exact (Kd.R_reads' HO120.out).2.2 | (with_reducible refine Kd.C_alloc ?_ _) | (with_reducible refine Kd.C_drewN ?_ _) | (with_reducible refine Kd.C_drew ?_))); (case side2 => exact (Kd.R_reads' HO120.out).2.1); rintro e w' ⟨rfl, ⟨nd, rfl⟩⟩))
      go_ret
      exact ⟨by first | rfl | (simp [errW_none, errW_some] <;> rfl) | (simp [*, errW_none, errW_some] <;> rfl), by repeat (first | (with_reducible first | exact HB.out | apply below_alloc | apply pw_below_drewN | apply below_drew1) | exact HB.out)⟩
  · replace c4 := Bool.eq_false_iff.mpr c4
    subst c4
    have H1 : (some false) = some r := by rw [if_neg (show ¬ (false = true) by decide)] at H; exact H
    clear H
    have H := H1
    clear H1
    obtain rfl := Option.some.inj H
    go_enter Tryd.func10, Tryd.ntmps10
    go_wp2
    go_ret
    exact ⟨by first | rfl | (simp [errW_none, errW_some] <;> rfl) | (simp [*, errW_none, errW_some] <;> rfl), by repeat (first | (with_reducible first | exact HB.out | apply below_alloc | apply pw_below_drewN | apply below_drew1) | exact HB.out)⟩

/-! ### perms_Stat: function 11 -/
open Go.Proofs.Hp Go.Proofs.Ev
def stat_itoa (n : Int) : ByteArray := ⟨(Lib.itoa n).toArray⟩
/-- The seven numbers that are told of an inode. -/
def stat_l (a0_0 a0_2 a0_3 a0_4 a0_5 a0_6 z : Int) : List Int := [a0_0, a0_2, a0_3, a0_4, a0_5, a0_6, z]
def stat_s (l : List Int) : ByteArray := ⟨(Lib.join (l.map Lib.itoa) [32]).toArray⟩
/-- Numbers whose text is told without the table of powers. -/
def stat_small (l : List Int) : Bool := l.all fun n => decide (0 ≤ n ∧ n < 100)
def stat_tab (w : World) : Prop := Lib.TabIs Tryd.prog w "internal/strconv.uint64pow10" .u64 Lib.pow10Tab
theorem stat_tab.below {w w' : World} (h : stat_tab w) (hb : Below w.heap.size w w') : stat_tab w' := by
  unfold stat_tab Lib.TabIs at h ⊢
  have hg : Tryd.prog.globalNamed "internal/strconv.uint64pow10" = some 0 := by kernel_rfl
  unfold World.var? at h ⊢
  rw [hg] at h ⊢
  simp only [Option.bind_eq_bind, Option.bind_some] at h ⊢
  cases hq : w.heap[0]? with
  | none => rw [hq] at h; simp at h
  | some ob => rw [blk_below hq hb]; rw [hq] at h; exact h
theorem stat_grow (w : World) (k : Nat) (os : Array Obj) : Below w.heap.size w (Sort.grow (w.drewN k) os) := ⟨rfl, rfl, rfl, by simp [Sort.grow], fun i hi => by simp [Sort.grow, Array.getElem?_append_left hi]⟩
theorem stat_itoa_calls (n : Int) (w : World) (h0 : -9223372036854775808 ≤ n) (h1 : n ≤ 9223372036854775807) (hT : (0 ≤ n ∧ n < 100) ∨ stat_tab w) :
    Calls Tryd.prog 20 #[.int .i64 n] w fun e w' => e = .returned (.string (stat_itoa n)) ∧ Below w.heap.size w w' := by
  by_cases hs : 0 ≤ n ∧ n < 100
  · obtain ⟨m, rfl⟩ : ∃ m : Nat, n = (m : Int) := ⟨n.toNat, by omega⟩
    refine (Tryd.strconv_Itoa_small m (by omega) w).mono ?_
    rintro e w' ⟨rfl, rfl⟩
    refine ⟨?_, Below.refl _ _⟩
    unfold stat_itoa Lib.itoa
    rw [if_neg (by omega)]
    simp
  · have hT := hT.resolve_left hs
    refine (Tryd.strconv_Itoa n h0 h1 w hT).mono ?_
    rintro e w' ⟨rfl, k, os, rfl⟩
    exact ⟨rfl, stat_grow _ _ _⟩
def stat_ok (n : Int) : Prop := -9223372036854775808 ≤ n ∧ n ≤ 9223372036854775807
theorem stat_join_le (l : List Int) (xs : List ByteArray) (hxs : xs = l.map stat_itoa) (hl : l.length = 7) (hk : ∀ n ∈ l, stat_ok n) : (Lib.join (xs.map (·.data.toList)) (⟨#[32]⟩ : ByteArray).data.toList).length ≤ 140737488355328 := by
  have e : xs.map (·.data.toList) = l.map Lib.itoa := by rw [hxs]; simp [stat_itoa]
  rw [e]
  have hle : ∀ l : List Int, (∀ n ∈ l, stat_ok n) → Lib.lens (l.map Lib.itoa) ≤ 21 * l.length := by
    intro l
    induction l with
    | nil => intro _; simp [Lib.lens]
    | cons a l ih =>
      intro h
      have h1 := Lib.itoa_length_le a (h a (by simp)).1 (h a (by simp)).2
      have h2 := ih (fun n hn => h n (by simp [hn]))
      have e : Lib.lens ((a :: l).map Lib.itoa) = (Lib.itoa a).length + Lib.lens (l.map Lib.itoa) := by simp [Lib.lens]
      have e2 : (a :: l).length = l.length + 1 := rfl
      omega
  match l, hl, hk with
  | a :: r, hl, hk =>
    rw [List.map_cons, Lib.join_length, ← List.map_cons]
    have h1 := hle (a :: r) hk
    have h2 : (⟨#[32]⟩ : ByteArray).data.toList.length = 1 := rfl
    rw [h2, List.length_map]
    have h3 : (a :: r).length = r.length + 1 := rfl
    omega
theorem stat_join_calls (l : List Int) (W : World) (g cap : Nat) (xs : List ByteArray) (hxs : xs = l.map stat_itoa) (hll : l.length = 7) (hk : ∀ n ∈ l, stat_ok n) (hlt : g < W.heap.size) (hnc : xs.length ≤ cap)
    (hcell : ∀ j u, ((l.take xs.length).map fun n => Value.string (stat_itoa n))[j]? = some u → W.cell? ⟨g, j, none⟩ = some u) :
    Calls Tryd.prog 21 #[.slice (some ⟨g, 0, none⟩) xs.length cap, .string ⟨#[32]⟩] W fun e w2 => e = .returned (.string (stat_s l)) ∧ Below W.heap.size W w2 := by
  refine (Tryd.strings_Join g 0 cap xs ⟨#[32]⟩ W ?_ hlt ?_ hnc (stat_join_le l xs hxs hll hk)).mono ?_
  · intro j x hx
    rw [Nat.zero_add]
    refine hcell j _ ?_
    have hjl : j < xs.length := (List.getElem?_eq_some_iff.1 hx).1
    have hx' : (l.map stat_itoa)[j]? = some x := by rw [← hxs]; exact hx
    simp only [List.getElem?_map, Option.map_eq_some_iff] at hx' ⊢
    obtain ⟨n, hn, rfl⟩ := hx'
    refine ⟨n, ?_, rfl⟩
    rw [List.getElem?_take, if_pos hjl]
    exact hn
  · rw [hxs, List.length_map, hll]; omega
  · rintro e w2 ⟨rfl, hb2⟩
    refine ⟨?_, hb2⟩
    unfold stat_s
    have e1 : xs.map (·.data.toList) = l.map Lib.itoa := by rw [hxs]; simp [stat_itoa]
    rw [e1]
set_option maxHeartbeats 8000000 in
set_option maxRecDepth 100000 in
theorem stat_calls (a0_0 a0_1 a0_2 a0_3 a0_4 a0_5 a0_6 : Int) (a0_7 : ByteArray) (A0_8 : Option Addr) (c0_8 : Nat) (l0_8 : List ByteArray) (A0_9 : Option Addr) (c0_9 : Nat) (l0_9 : List Int) (a0_10 : Int) (w : World) (z : Int) (hz : (if a0_2 = 2 then (l0_8.length : Int) else (a0_7.size : Int)) = z)
    (hT : stat_small [a0_0, a0_2, a0_3, a0_4, a0_5, a0_6, z] = true ∨ stat_tab w) (hok : ∀ n ∈ [a0_0, a0_2, a0_3, a0_4, a0_5, a0_6, z], stat_ok n) :
    Calls Tryd.prog 11 #[.agg #[.int .i64 a0_0, .int .i64 a0_1, .int .i64 a0_2, .int .i64 a0_3, .int .i64 a0_4, .int .i64 a0_5, .int .i64 a0_6, .string a0_7, .slice A0_8 l0_8.length c0_8, .slice A0_9 l0_9.length c0_9, .int .i64 a0_10]] w fun e w' => e = .returned (.string (stat_s [a0_0, a0_2, a0_3, a0_4, a0_5, a0_6, z])) ∧ Below w.heap.size w w' := by
  have hui := Tryd.underlying31
  have hus := Tryd.underlying9
  have hul := Tryd.underlying28
  have huk := Tryd.underlying29
  have hun := Tryd.underlying3
  have HO := Aside0.mk (Own.refl w)
  have HT := Aside0.mk hT
  have HK := Aside0.mk hok
  have HZ := Aside0.mk hz
  clear hT hok hz
  by_cases c : a0_2 = 2
  · have c0 : (a0_2 == 2) = true := by simpa using c
    have HZ2 : Aside0 ((l0_8.length : Int) = z) := ⟨by have := HZ.out; rw [if_pos c] at this; exact this⟩
    clear c HZ
    go_enter Tryd.func11, Tryd.ntmps11
    go_wp2_with (first | ((with_reducible refine gate_dst (N := 1) rfl ?_); refine own_box HO.out ?hg (N := 1) ?hd (cs := #[.int .i64 a0_0, .int .i64 a0_1, .int .i64 a0_2, .int .i64 a0_3, .int .i64 a0_4, .int .i64 a0_5, .int .i64 a0_6, .string a0_7, .slice A0_8 l0_8.length c0_8, .slice A0_9 l0_9.length c0_9, .int .i64 a0_10]) (t := 31) ?hr ?_; (case hd => rfl); (case hg => rfl); (case hr => first | (go_simp; done) | (go_simp; rfl) | kernel_rfl); intro g1 w1 hO_; clear HO; have HO := Aside0.mk hO_; clear hO_) | ((with_reducible refine gate_dst (N := 8) rfl ?_); refine own_load HO.out rfl (x := .tmp 7) (v := .string a0_7) rfl (by rfl) (by (repeat (first | exact .head | apply Ext.tail))) Tryd.underlying9 (by rfl) (by rfl) ?_) | ((with_reducible refine gate_dst (N := 11) rfl ?_); refine own_load HO.out rfl (x := .tmp 10) (v := .int .i64 a0_2) rfl (by rfl) (by (repeat (first | exact .head | apply Ext.tail))) Tryd.underlying3 (by rfl) (by rfl) ?_) | ((with_reducible refine gate_dst (N := 14) rfl ?_); refine own_load HO.out rfl (x := .tmp 13) (v := .slice A0_8 l0_8.length c0_8) rfl (by rfl) (by (repeat (first | exact .head | apply Ext.tail))) Tryd.underlying28 (by rfl) (by rfl) ?_) | ((with_reducible refine gate_dst (N := 17) rfl ?_); refine own_load HO.out rfl (x := .tmp 16) (v := .int .i64 a0_0) rfl (by rfl) (by (repeat (first | exact .head | apply Ext.tail))) Tryd.underlying3 (by rfl) (by rfl) ?_) | ((with_reducible refine gate_dst (N := 19) rfl ?_); refine own_load HO.out rfl (x := .tmp 18) (v := .int .i64 a0_2) rfl (by rfl) (by (repeat (first | exact .head | apply Ext.tail))) Tryd.underlying3 (by rfl) (by rfl) ?_) | ((with_reducible refine gate_dst (N := 21) rfl ?_); refine own_load HO.out rfl (x := .tmp 20) (v := .int .i64 a0_3) rfl (by rfl) (by (repeat (first | exact .head | apply Ext.tail))) Tryd.underlying3 (by rfl) (by rfl) ?_) | ((with_reducible refine gate_dst (N := 23) rfl ?_); refine own_load HO.out rfl (x := .tmp 22) (v := .int .i64 a0_4) rfl (by rfl) (by (repeat (first | exact .head | apply Ext.tail))) Tryd.underlying3 (by rfl) (by rfl) ?_) | ((with_reducible refine gate_dst (N := 25) rfl ?_); refine own_load HO.out rfl (x := .tmp 24) (v := .int .i64 a0_5) rfl (by rfl) (by (repeat (first | exact .head | apply Ext.tail))) Tryd.underlying3 (by rfl) (by rfl) ?_) | ((with_reducible refine gate_dst (N := 27) rfl ?_); refine own_load HO.out rfl (x := .tmp 26) (v := .int .i64 a0_6) rfl (by rfl) (by (repeat (first | exact .head | apply Ext.tail))) Tryd.underlying3 (by rfl) (by rfl) ?_) | ((with_reducible refine gate_dst (N := 29) rfl ?_); refine own_lit HO.out ?hg (N := 29) ?hd (cs := #[.int .i64 a0_0, .int .i64 a0_2, .int .i64 a0_3, .int .i64 a0_4, .int .i64 a0_5, .int .i64 a0_6, .int .i64 (l0_8.length : Int)]) (t := 3) (n := 7) (m := 7) ?hr ?_; (case hd => rfl); (case hg => rfl); (case hr => first | (go_simp; done) | (go_simp; rfl) | kernel_rfl); intro g29 w29 hO_; clear HO; have HO := Aside0.mk hO_; clear hO_))
    obtain ⟨l, hl⟩ : ∃ l : List Int, l = [a0_0, a0_2, a0_3, a0_4, a0_5, a0_6, (l0_8.length : Int)] := ⟨_, rfl⟩
    have hll : l.length = 7 := by rw [hl]; rfl
    have HL : Aside0 (∀ i : Nat, i < 7 → ∃ x, (#[.int .i64 a0_0, .int .i64 a0_2, .int .i64 a0_3, .int .i64 a0_4, .int .i64 a0_5, .int .i64 a0_6, .int .i64 (l0_8.length : Int)] : Array Value)[i]? = some (.int .i64 x) ∧ l[i]? = some x) := ⟨by
      intro i hi
      rw [hl]
      match i, hi with
      | 0, _ => exact ⟨_, rfl, rfl⟩
      | 1, _ => exact ⟨_, rfl, rfl⟩
      | 2, _ => exact ⟨_, rfl, rfl⟩
      | 3, _ => exact ⟨_, rfl, rfl⟩
      | 4, _ => exact ⟨_, rfl, rfl⟩
      | 5, _ => exact ⟨_, rfl, rfl⟩
      | 6, _ => exact ⟨_, rfl, rfl⟩⟩
    have HT := Aside0.mk (show stat_small l = true ∨ stat_tab w by rw [hl]; have := HT.out; rw [← HZ2.out] at this; exact this)
    have HK := Aside0.mk (show ∀ n ∈ l, stat_ok n by rw [hl]; have := HK.out; rw [← HZ2.out] at this; exact this)
    have HE : Aside0 (l = [a0_0, a0_2, a0_3, a0_4, a0_5, a0_6, z]) := ⟨by rw [hl, HZ2.out]⟩
    have HLL := Aside0.mk hll
    clear hl hll HZ2
    go_loopg [4, 31] 7 (fun gk v4 v31 w' => ∃ (i : Nat) (R : Hl), v31 = .int .i64 (i : Int) ∧ Aside0 (i + gk = 7) ∧ Aside0 (RowOf 9 1 R v4 i ((l.take i).map fun n => .string (stat_itoa n))) ∧ Aside0 (Own w w' ((g29, .cells #[.int .i64 a0_0, .int .i64 a0_2, .int .i64 a0_3, .int .i64 a0_4, .int .i64 a0_5, .int .i64 a0_6, .int .i64 (l0_8.length : Int)] 3 (0, 0)) :: (g1, .cells #[.int .i64 a0_0, .int .i64 a0_1, .int .i64 a0_2, .int .i64 a0_3, .int .i64 a0_4, .int .i64 a0_5, .int .i64 a0_6, .string a0_7, .slice A0_8 l0_8.length c0_8, .slice A0_9 l0_9.length c0_9, .int .i64 a0_10] 31 (0, 0)) :: (R ++ []))))
    case atStart => exact ⟨0, [], rfl, ⟨rfl⟩, ⟨RowOf.none _ _⟩, HO⟩
    case round =>
      clear HO
      obtain ⟨i, R, rfl, HI, HR, HO⟩ := hrel
      cases gk with
      | zero =>
        have c1 : decide ((i : Int) < 7) = false := decide_eq_false (by have := HI.out; omega)
        obtain ⟨g, cap, rfl, hnc, hcm, hge, hlt, hcell⟩ := HR.out.cells HO.out.drop.drop (by have := HI.out; omega)
        obtain ⟨xs, hxs⟩ : ∃ xs, xs = l.map stat_itoa := ⟨_, rfl⟩
        obtain rfl : i = xs.length := by rw [hxs, List.length_map, HLL.out]; have := HI.out; omega
        have HJ := Aside0.mk (stat_join_calls l _ g cap xs hxs HLL.out HK.out hlt hnc hcell)
        clear hcell hnc hcm hge hlt hxs
        go_wp2_with (first | ((with_reducible refine gate_callee (f := 21) rfl ?_); (with_reducible refine gate_dst (N := 42) rfl ?_); refine goesL_ (some 42) rfl rfl Tryd.func21 (by kernel_rfl) rfl #[.slice (some ⟨g, 0, none⟩) xs.length cap, .string ⟨#[32]⟩] rfl (by (try simp only [List.map_toArray, List.map_cons, List.map_nil]); first | done | rfl) ?_; (with_reducible refine (HJ.out).mono ?_); rintro e wx ⟨rfl, hb⟩; refine ⟨_, rfl, ?_⟩; have hO_ := HO.out.below hb; clear hb; clear HO; have HO := Aside0.mk hO_; clear hO_))
        
        go_ret
        exact ⟨congrArg (fun x => Ending.returned (Value.string (stat_s x))) HE.out, HO.out.bel⟩
      | succ n =>
        obtain ⟨x, hx1, hx2⟩ := HL.out i (by have := HI.out; omega)
        have HX1 := Aside0.mk hx1
        have hm : x ∈ l := List.mem_of_getElem? hx2
        have HX : Aside0 (-9223372036854775808 ≤ x ∧ x ≤ 9223372036854775807) := ⟨HK.out x hm⟩
        have HS : Aside0 ((0 ≤ x ∧ x < 100) ∨ stat_tab w) := ⟨HT.out.imp (fun h => of_decide_eq_true (List.all_eq_true.1 h x hm)) id⟩
        have HX2 := Aside0.mk hx2
        clear hx1 hx2 hm
        have c1 : decide ((i : Int) < 7) = true := decide_eq_true (by have := HI.out; omega)
        have p1 : 0 ≤ (i : Int) := by omega
        have q1 : (i : Int) < 7 := by have := HI.out; omega
        replace p1 := eq_true p1
        replace q1 := eq_true q1
        have hiw : IntKind.i64.wrap ((i : Int) + 1) = ((i + 1 : Nat) : Int) := (IntWalk.i64_in _ (by have := HI.out; omega)).trans (by omega)
        have hiw2 : wrap64 ((i : Int) + 1) = ((i + 1 : Nat) : Int) := (i64_w _).symm.trans hiw
        go_wp2_with (first | ((with_reducible refine gate_dst (N := 34) rfl ?_); refine own_load HO.out rfl (x := .tmp 33) (v := .int .i64 x) rfl (by rfl) (.head) hun (by rfl) HX1.out ?_) | ((with_reducible refine gate_callee (f := 20) rfl ?_); (with_reducible refine gate_dst (N := 37) rfl ?_); refine goesL_ (some 37) rfl rfl Tryd.func20 (by kernel_rfl) rfl #[.int .i64 x] rfl (by (try simp only [List.map_toArray, List.map_cons, List.map_nil]); first | done | rfl) ?_; (with_reducible refine (stat_itoa_calls x _ HX.out.1 HX.out.2 (HS.out.imp id (fun h => h.below HO.out.bel))).mono ?_); rintro e wx ⟨rfl, hb⟩; refine ⟨_, rfl, ?_⟩; have hO_ := HO.out.below hb; clear hb; clear HO; have HO := Aside0.mk hO_; clear hO_) | ((with_reducible refine gate_dst (N := 38) rfl ?_); refine own_lit HO.out ?hg (N := 38) ?hd (cs := #[.string (stat_itoa x)]) (t := 9) (n := 1) (m := 1) ?hr ?_; (case hd => rfl); (case hg => rfl); (case hr => first | (go_simp; done) | (go_simp; rfl) | kernel_rfl); intro g38 w38 hO_; clear HO; have HO := Aside0.mk hO_; clear hO_) | ((with_reducible refine gate_dst (N := 39) rfl ?_); refine own_append (z := .string ByteArray.empty) (size := 1) (bytes := 16) (R := R) (L := []) [(g38, .cells #[.string (stat_itoa x)] 9 (0, 0)), (g29, .cells #[.int .i64 a0_0, .int .i64 a0_2, .int .i64 a0_3, .int .i64 a0_4, .int .i64 a0_5, .int .i64 a0_6, .int .i64 (l0_8.length : Int)] 3 (0, 0)), (g1, .cells #[.int .i64 a0_0, .int .i64 a0_1, .int .i64 a0_2, .int .i64 a0_3, .int .i64 a0_4, .int .i64 a0_5, .int .i64 a0_6, .string a0_7, .slice A0_8 l0_8.length c0_8, .slice A0_9 l0_9.length c0_9, .int .i64 a0_10] 31 (0, 0))] HO.out rfl rfl hul (by kernel_rfl) rfl (by rfl) HR.out (by rfl) (HO.out.src hul .head 0 1 1 [.string (stat_itoa x)] rfl rfl (by simp [Value.oneCell'])) (by have := HI.out; show i + 1 ≤ 9223372036854775807; omega) (by have := HI.out; show (i + 1) * 16 ≤ 140737488355328; omega) ?_; intro v2 R2 wc hR2 hO_; have hO_ : Own w wc ((g29, .cells #[.int .i64 a0_0, .int .i64 a0_2, .int .i64 a0_3, .int .i64 a0_4, .int .i64 a0_5, .int .i64 a0_6, .int .i64 (l0_8.length : Int)] 3 (0, 0)) :: (g1, .cells #[.int .i64 a0_0, .int .i64 a0_1, .int .i64 a0_2, .int .i64 a0_3, .int .i64 a0_4, .int .i64 a0_5, .int .i64 a0_6, .string a0_7, .slice A0_8 l0_8.length c0_8, .slice A0_9 l0_9.length c0_9, .int .i64 a0_10] 31 (0, 0)) :: (R2 ++ [])) := hO_.drop; clear HO; have HO := Aside0.mk hO_; clear hO_))
        go_roundg n
        case measure => omega
        case rel =>
          refine ⟨i + 1, R2, rfl, ⟨by have := HI.out; omega⟩, ⟨?_⟩, HO⟩
          have e : (l.take (i + 1)).map (fun n => Value.string (stat_itoa n)) = (l.take i).map (fun n => Value.string (stat_itoa n)) ++ [Value.string (stat_itoa x)] := by
            rw [List.take_add_one, HX2.out]
            simp
          rw [e]
          exact hR2
  · have c0 : (a0_2 == 2) = false := by simpa using c
    have HZ2 : Aside0 ((a0_7.size : Int) = z) := ⟨by have := HZ.out; rw [if_neg c] at this; exact this⟩
    clear c HZ
    go_enter Tryd.func11, Tryd.ntmps11
    go_wp2_with (first | ((with_reducible refine gate_dst (N := 1) rfl ?_); refine own_box HO.out ?hg (N := 1) ?hd (cs := #[.int .i64 a0_0, .int .i64 a0_1, .int .i64 a0_2, .int .i64 a0_3, .int .i64 a0_4, .int .i64 a0_5, .int .i64 a0_6, .string a0_7, .slice A0_8 l0_8.length c0_8, .slice A0_9 l0_9.length c0_9, .int .i64 a0_10]) (t := 31) ?hr ?_; (case hd => rfl); (case hg => rfl); (case hr => first | (go_simp; done) | (go_simp; rfl) | kernel_rfl); intro g1 w1 hO_; clear HO; have HO := Aside0.mk hO_; clear hO_) | ((with_reducible refine gate_dst (N := 8) rfl ?_); refine own_load HO.out rfl (x := .tmp 7) (v := .string a0_7) rfl (by rfl) (by (repeat (first | exact .head | apply Ext.tail))) Tryd.underlying9 (by rfl) (by rfl) ?_) | ((with_reducible refine gate_dst (N := 11) rfl ?_); refine own_load HO.out rfl (x := .tmp 10) (v := .int .i64 a0_2) rfl (by rfl) (by (repeat (first | exact .head | apply Ext.tail))) Tryd.underlying3 (by rfl) (by rfl) ?_) | ((with_reducible refine gate_dst (N := 17) rfl ?_); refine own_load HO.out rfl (x := .tmp 16) (v := .int .i64 a0_0) rfl (by rfl) (by (repeat (first | exact .head | apply Ext.tail))) Tryd.underlying3 (by rfl) (by rfl) ?_) | ((with_reducible refine gate_dst (N := 19) rfl ?_); refine own_load HO.out rfl (x := .tmp 18) (v := .int .i64 a0_2) rfl (by rfl) (by (repeat (first | exact .head | apply Ext.tail))) Tryd.underlying3 (by rfl) (by rfl) ?_) | ((with_reducible refine gate_dst (N := 21) rfl ?_); refine own_load HO.out rfl (x := .tmp 20) (v := .int .i64 a0_3) rfl (by rfl) (by (repeat (first | exact .head | apply Ext.tail))) Tryd.underlying3 (by rfl) (by rfl) ?_) | ((with_reducible refine gate_dst (N := 23) rfl ?_); refine own_load HO.out rfl (x := .tmp 22) (v := .int .i64 a0_4) rfl (by rfl) (by (repeat (first | exact .head | apply Ext.tail))) Tryd.underlying3 (by rfl) (by rfl) ?_) | ((with_reducible refine gate_dst (N := 25) rfl ?_); refine own_load HO.out rfl (x := .tmp 24) (v := .int .i64 a0_5) rfl (by rfl) (by (repeat (first | exact .head | apply Ext.tail))) Tryd.underlying3 (by rfl) (by rfl) ?_) | ((with_reducible refine gate_dst (N := 27) rfl ?_); refine own_load HO.out rfl (x := .tmp 26) (v := .int .i64 a0_6) rfl (by rfl) (by (repeat (first | exact .head | apply Ext.tail))) Tryd.underlying3 (by rfl) (by rfl) ?_) | ((with_reducible refine gate_dst (N := 29) rfl ?_); refine own_lit HO.out ?hg (N := 29) ?hd (cs := #[.int .i64 a0_0, .int .i64 a0_2, .int .i64 a0_3, .int .i64 a0_4, .int .i64 a0_5, .int .i64 a0_6, .int .i64 (a0_7.size : Int)]) (t := 3) (n := 7) (m := 7) ?hr ?_; (case hd => rfl); (case hg => rfl); (case hr => first | (go_simp; done) | (go_simp; rfl) | kernel_rfl); intro g29 w29 hO_; clear HO; have HO := Aside0.mk hO_; clear hO_))
    obtain ⟨l, hl⟩ : ∃ l : List Int, l = [a0_0, a0_2, a0_3, a0_4, a0_5, a0_6, (a0_7.size : Int)] := ⟨_, rfl⟩
    have hll : l.length = 7 := by rw [hl]; rfl
    have HL : Aside0 (∀ i : Nat, i < 7 → ∃ x, (#[.int .i64 a0_0, .int .i64 a0_2, .int .i64 a0_3, .int .i64 a0_4, .int .i64 a0_5, .int .i64 a0_6, .int .i64 (a0_7.size : Int)] : Array Value)[i]? = some (.int .i64 x) ∧ l[i]? = some x) := ⟨by
      intro i hi
      rw [hl]
      match i, hi with
      | 0, _ => exact ⟨_, rfl, rfl⟩
      | 1, _ => exact ⟨_, rfl, rfl⟩
      | 2, _ => exact ⟨_, rfl, rfl⟩
      | 3, _ => exact ⟨_, rfl, rfl⟩
      | 4, _ => exact ⟨_, rfl, rfl⟩
      | 5, _ => exact ⟨_, rfl, rfl⟩
      | 6, _ => exact ⟨_, rfl, rfl⟩⟩
    have HT := Aside0.mk (show stat_small l = true ∨ stat_tab w by rw [hl]; have := HT.out; rw [← HZ2.out] at this; exact this)
    have HK := Aside0.mk (show ∀ n ∈ l, stat_ok n by rw [hl]; have := HK.out; rw [← HZ2.out] at this; exact this)
    have HE : Aside0 (l = [a0_0, a0_2, a0_3, a0_4, a0_5, a0_6, z]) := ⟨by rw [hl, HZ2.out]⟩
    have HLL := Aside0.mk hll
    clear hl hll HZ2
    go_loopg [4, 31] 7 (fun gk v4 v31 w' => ∃ (i : Nat) (R : Hl), v31 = .int .i64 (i : Int) ∧ Aside0 (i + gk = 7) ∧ Aside0 (RowOf 9 1 R v4 i ((l.take i).map fun n => .string (stat_itoa n))) ∧ Aside0 (Own w w' ((g29, .cells #[.int .i64 a0_0, .int .i64 a0_2, .int .i64 a0_3, .int .i64 a0_4, .int .i64 a0_5, .int .i64 a0_6, .int .i64 (a0_7.size : Int)] 3 (0, 0)) :: (g1, .cells #[.int .i64 a0_0, .int .i64 a0_1, .int .i64 a0_2, .int .i64 a0_3, .int .i64 a0_4, .int .i64 a0_5, .int .i64 a0_6, .string a0_7, .slice A0_8 l0_8.length c0_8, .slice A0_9 l0_9.length c0_9, .int .i64 a0_10] 31 (0, 0)) :: (R ++ []))))
    case atStart => exact ⟨0, [], rfl, ⟨rfl⟩, ⟨RowOf.none _ _⟩, HO⟩
    case round =>
      clear HO
      obtain ⟨i, R, rfl, HI, HR, HO⟩ := hrel
      cases gk with
      | zero =>
        have c1 : decide ((i : Int) < 7) = false := decide_eq_false (by have := HI.out; omega)
        obtain ⟨g, cap, rfl, hnc, hcm, hge, hlt, hcell⟩ := HR.out.cells HO.out.drop.drop (by have := HI.out; omega)
        obtain ⟨xs, hxs⟩ : ∃ xs, xs = l.map stat_itoa := ⟨_, rfl⟩
        obtain rfl : i = xs.length := by rw [hxs, List.length_map, HLL.out]; have := HI.out; omega
        have HJ := Aside0.mk (stat_join_calls l _ g cap xs hxs HLL.out HK.out hlt hnc hcell)
        clear hcell hnc hcm hge hlt hxs
        go_wp2_with (first | ((with_reducible refine gate_callee (f := 21) rfl ?_); (with_reducible refine gate_dst (N := 42) rfl ?_); refine goesL_ (some 42) rfl rfl Tryd.func21 (by kernel_rfl) rfl #[.slice (some ⟨g, 0, none⟩) xs.length cap, .string ⟨#[32]⟩] rfl (by (try simp only [List.map_toArray, List.map_cons, List.map_nil]); first | done | rfl) ?_; (with_reducible refine (HJ.out).mono ?_); rintro e wx ⟨rfl, hb⟩; refine ⟨_, rfl, ?_⟩; have hO_ := HO.out.below hb; clear hb; clear HO; have HO := Aside0.mk hO_; clear hO_))
        
        go_ret
        exact ⟨congrArg (fun x => Ending.returned (Value.string (stat_s x))) HE.out, HO.out.bel⟩
      | succ n =>
        obtain ⟨x, hx1, hx2⟩ := HL.out i (by have := HI.out; omega)
        have HX1 := Aside0.mk hx1
        have hm : x ∈ l := List.mem_of_getElem? hx2
        have HX : Aside0 (-9223372036854775808 ≤ x ∧ x ≤ 9223372036854775807) := ⟨HK.out x hm⟩
        have HS : Aside0 ((0 ≤ x ∧ x < 100) ∨ stat_tab w) := ⟨HT.out.imp (fun h => of_decide_eq_true (List.all_eq_true.1 h x hm)) id⟩
        have HX2 := Aside0.mk hx2
        clear hx1 hx2 hm
        have c1 : decide ((i : Int) < 7) = true := decide_eq_true (by have := HI.out; omega)
        have p1 : 0 ≤ (i : Int) := by omega
        have q1 : (i : Int) < 7 := by have := HI.out; omega
        replace p1 := eq_true p1
        replace q1 := eq_true q1
        have hiw : IntKind.i64.wrap ((i : Int) + 1) = ((i + 1 : Nat) : Int) := (IntWalk.i64_in _ (by have := HI.out; omega)).trans (by omega)
        have hiw2 : wrap64 ((i : Int) + 1) = ((i + 1 : Nat) : Int) := (i64_w _).symm.trans hiw
        go_wp2_with (first | ((with_reducible refine gate_dst (N := 34) rfl ?_); refine own_load HO.out rfl (x := .tmp 33) (v := .int .i64 x) rfl (by rfl) (.head) hun (by rfl) HX1.out ?_) | ((with_reducible refine gate_callee (f := 20) rfl ?_); (with_reducible refine gate_dst (N := 37) rfl ?_); refine goesL_ (some 37) rfl rfl Tryd.func20 (by kernel_rfl) rfl #[.int .i64 x] rfl (by (try simp only [List.map_toArray, List.map_cons, List.map_nil]); first | done | rfl) ?_; (with_reducible refine (stat_itoa_calls x _ HX.out.1 HX.out.2 (HS.out.imp id (fun h => h.below HO.out.bel))).mono ?_); rintro e wx ⟨rfl, hb⟩; refine ⟨_, rfl, ?_⟩; have hO_ := HO.out.below hb; clear hb; clear HO; have HO := Aside0.mk hO_; clear hO_) | ((with_reducible refine gate_dst (N := 38) rfl ?_); refine own_lit HO.out ?hg (N := 38) ?hd (cs := #[.string (stat_itoa x)]) (t := 9) (n := 1) (m := 1) ?hr ?_; (case hd => rfl); (case hg => rfl); (case hr => first | (go_simp; done) | (go_simp; rfl) | kernel_rfl); intro g38 w38 hO_; clear HO; have HO := Aside0.mk hO_; clear hO_) | ((with_reducible refine gate_dst (N := 39) rfl ?_); refine own_append (z := .string ByteArray.empty) (size := 1) (bytes := 16) (R := R) (L := []) [(g38, .cells #[.string (stat_itoa x)] 9 (0, 0)), (g29, .cells #[.int .i64 a0_0, .int .i64 a0_2, .int .i64 a0_3, .int .i64 a0_4, .int .i64 a0_5, .int .i64 a0_6, .int .i64 (a0_7.size : Int)] 3 (0, 0)), (g1, .cells #[.int .i64 a0_0, .int .i64 a0_1, .int .i64 a0_2, .int .i64 a0_3, .int .i64 a0_4, .int .i64 a0_5, .int .i64 a0_6, .string a0_7, .slice A0_8 l0_8.length c0_8, .slice A0_9 l0_9.length c0_9, .int .i64 a0_10] 31 (0, 0))] HO.out rfl rfl hul (by kernel_rfl) rfl (by rfl) HR.out (by rfl) (HO.out.src hul .head 0 1 1 [.string (stat_itoa x)] rfl rfl (by simp [Value.oneCell'])) (by have := HI.out; show i + 1 ≤ 9223372036854775807; omega) (by have := HI.out; show (i + 1) * 16 ≤ 140737488355328; omega) ?_; intro v2 R2 wc hR2 hO_; have hO_ : Own w wc ((g29, .cells #[.int .i64 a0_0, .int .i64 a0_2, .int .i64 a0_3, .int .i64 a0_4, .int .i64 a0_5, .int .i64 a0_6, .int .i64 (a0_7.size : Int)] 3 (0, 0)) :: (g1, .cells #[.int .i64 a0_0, .int .i64 a0_1, .int .i64 a0_2, .int .i64 a0_3, .int .i64 a0_4, .int .i64 a0_5, .int .i64 a0_6, .string a0_7, .slice A0_8 l0_8.length c0_8, .slice A0_9 l0_9.length c0_9, .int .i64 a0_10] 31 (0, 0)) :: (R2 ++ [])) := hO_.drop; clear HO; have HO := Aside0.mk hO_; clear hO_))
        go_roundg n
        case measure => omega
        case rel =>
          refine ⟨i + 1, R2, rfl, ⟨by have := HI.out; omega⟩, ⟨?_⟩, HO⟩
          have e : (l.take (i + 1)).map (fun n => Value.string (stat_itoa n)) = (l.take i).map (fun n => Value.string (stat_itoa n)) ++ [Value.string (stat_itoa x)] := by
            rw [List.take_add_one, HX2.out]
            simp
          rw [e]
          exact hR2
theorem stat_ok_dec (l : List Int) : (l.all fun n => decide (-9223372036854775808 ≤ n ∧ n ≤ 9223372036854775807)) = true → ∀ n ∈ l, stat_ok n := fun h n hn => by
  have h1 : decide (-9223372036854775808 ≤ n ∧ n ≤ 9223372036854775807) = true := List.all_eq_true.1 h n hn
  have h2 := of_decide_eq_true h1
  exact h2
def perms_Stat.f (a0_0 : Int) (a0_1 : Int) (a0_2 : Int) (a0_3 : Int) (a0_4 : Int) (a0_5 : Int) (a0_6 : Int) (a0_7 : ByteArray) (l0_8 : List ByteArray) (l0_9 : List Int) (a0_10 : Int) : Option (ByteArray) := if ([a0_0, a0_2, a0_3, a0_4, a0_5, a0_6, if a0_2 = 2 then (l0_8.length : Int) else (a0_7.size : Int)].all fun n => decide (-9223372036854775808 ≤ n ∧ n ≤ 9223372036854775807)) = true then some (stat_s [a0_0, a0_2, a0_3, a0_4, a0_5, a0_6, if a0_2 = 2 then (l0_8.length : Int) else (a0_7.size : Int)]) else none
theorem perms_Stat.calls (a0_0 : Int) (a0_1 : Int) (a0_2 : Int) (a0_3 : Int) (a0_4 : Int) (a0_5 : Int) (a0_6 : Int) (a0_7 : ByteArray) (A0_8 : Option Addr) (c0_8 : Nat) (l0_8 : List ByteArray) (A0_9 : Option Addr) (c0_9 : Nat) (l0_9 : List Int) (a0_10 : Int) (r : ByteArray) (w : World) (hr0_8 : Kd.C Kd.string w A0_8 l0_8.length l0_8) (hc0_8 : l0_8.length ≤ c0_8) (hr0_9 : Kd.C (Kd.int .i64) w A0_9 l0_9.length l0_9) (hc0_9 : l0_9.length ≤ c0_9) (h : perms_Stat.f a0_0 a0_1 a0_2 a0_3 a0_4 a0_5 a0_6 a0_7 l0_8 l0_9 a0_10 = some r)
    (hT : stat_small [a0_0, a0_2, a0_3, a0_4, a0_5, a0_6, if a0_2 = 2 then (l0_8.length : Int) else (a0_7.size : Int)] = true ∨ stat_tab w := by (with_unfolding_all first | exact Or.inr (stat_tab.below HT.out HB.out) | exact Or.inr (stat_tab.below HT.out (by repeat (first | (with_reducible first | exact HB.out | apply below_alloc | apply pw_below_drewN | apply below_drew1) | exact HB.out))) | exact Or.inl (by decide))) :
    Calls Tryd.prog 11 #[.agg #[.int .i64 a0_0, .int .i64 a0_1, .int .i64 a0_2, .int .i64 a0_3, .int .i64 a0_4, .int .i64 a0_5, .int .i64 a0_6, .string a0_7, .slice A0_8 l0_8.length c0_8, .slice A0_9 l0_9.length c0_9, .int .i64 a0_10]] w fun e w' => e = .returned (.string r) ∧ Below w.heap.size w w' := by
  unfold perms_Stat.f at h
  generalize hz : (if a0_2 = 2 then (l0_8.length : Int) else (a0_7.size : Int)) = z at h hT
  by_cases hs : ([a0_0, a0_2, a0_3, a0_4, a0_5, a0_6, z].all fun n => decide (-9223372036854775808 ≤ n ∧ n ≤ 9223372036854775807)) = true
  · rw [if_pos hs] at h
    obtain rfl := Option.some.inj h
    exact stat_calls a0_0 a0_1 a0_2 a0_3 a0_4 a0_5 a0_6 a0_7 A0_8 c0_8 l0_8 A0_9 c0_9 l0_9 a0_10 w z hz hT (stat_ok_dec _ hs)
  · rw [if_neg hs] at h
    exact absurd h (by simp)


/-! ### halberdlaw23_alive: function 7 -/
def halberdlaw23_alive.f (k : Nat)  : Option (Bool) := (perms_Flags.f k 3).bind fun bt122 => ((perms_Flags.f k 4).bind fun bt124 => (if bt122.1 = 6 then (if bt122.2 = true then (if bt124.2 = true then (some false) else ((perms_Prot.f k 2 true false).bind fun t126 => (if t126 = true then (some false) else ((perms_Prot.f k 2 true true).bind fun t127 => (if t127 = true then ((perms_Stat.f 2 0 1 0 0 0 0 (⟨#[97, 98, 99]⟩ : ByteArray) ([] : List ByteArray) ([] : List Int) 0).bind fun t128 => (some (t128.toList == ([50, 32, 49, 32, 48, 32, 48, 32, 48, 32, 48, 32, 51] : List UInt8)))) else (some false)))))) else (some false)) else (some false)))
theorem halberdlaw23_alive.mono : ∀ k, LeO (halberdlaw23_alive.f k ) (halberdlaw23_alive.f (k + 1) ) := by
  intro  k
  unfold halberdlaw23_alive.f
  repeat' first
      | (with_reducible exact perms_Flags.mono _ _)
      | (with_reducible exact perms_Prot.mono _ _ _ _)
      | (with_reducible exact LeO.refl _)
      | (with_reducible exact LeO.none _)
      | (with_reducible refine LeO.ite ?_ ?_)
      | (with_reducible refine LeO.bind ?_ (fun _ => ?_))
      | exact perms_Flags.mono _ _
      | exact perms_Prot.mono _ _ _ _
      | exact LeO.none _
      | refine LeO.ite ?_ ?_
      | refine LeO.bind ?_ (fun _ => ?_)
set_option maxHeartbeats 8000000 in
set_option maxRecDepth 100000 in
theorem halberdlaw23_alive.calls (k : Nat)  (r : Bool) (w : World) (h : halberdlaw23_alive.f k  = some r) :
    Calls Tryd.prog 7 #[] w fun e w' => e = .returned (.bool r) ∧ Below w.heap.size w w' := by
  have hu31 := Tryd.underlying31
  have HB := Aside0.mk (Below.refl w.heap.size w)
  have H : ((perms_Flags.f k 3).bind fun bt122 => ((perms_Flags.f k 4).bind fun bt124 => (if bt122.1 = 6 then (if bt122.2 = true then (if bt124.2 = true then (some false) else ((perms_Prot.f k 2 true false).bind fun t126 => (if t126 = true then (some false) else ((perms_Prot.f k 2 true true).bind fun t127 => (if t127 = true then ((perms_Stat.f 2 0 1 0 0 0 0 (⟨#[97, 98, 99]⟩ : ByteArray) ([] : List ByteArray) ([] : List Int) 0).bind fun t128 => (some (t128.toList == ([50, 32, 49, 32, 48, 32, 48, 32, 48, 32, 48, 32, 51] : List UInt8)))) else (some false)))))) else (some false)) else (some false)))) = some r := h
  clear h
  replace H := Option.bind_eq_some_iff.mp H
  obtain ⟨⟨t122, t123⟩, A10, H⟩ := H
  replace H : ((perms_Flags.f k 4).bind fun bt124 => (if t122 = 6 then (if t123 = true then (if bt124.2 = true then (some false) else ((perms_Prot.f k 2 true false).bind fun t126 => (if t126 = true then (some false) else ((perms_Prot.f k 2 true true).bind fun t127 => (if t127 = true then ((perms_Stat.f 2 0 1 0 0 0 0 (⟨#[97, 98, 99]⟩ : ByteArray) ([] : List ByteArray) ([] : List Int) 0).bind fun t128 => (some (t128.toList == ([50, 32, 49, 32, 48, 32, 48, 32, 48, 32, 48, 32, 51] : List UInt8)))) else (some false)))))) else (some false)) else (some false))) = some r := H
  have A1 := Aside0.mk A10
  clear A10
  replace H := Option.bind_eq_some_iff.mp H
  obtain ⟨⟨t124, t125⟩, A20, H⟩ := H
  replace H : (if t122 = 6 then (if t123 = true then (if t125 = true then (some false) else ((perms_Prot.f k 2 true false).bind fun t126 => (if t126 = true then (some false) else ((perms_Prot.f k 2 true true).bind fun t127 => (if t127 = true then ((perms_Stat.f 2 0 1 0 0 0 0 (⟨#[97, 98, 99]⟩ : ByteArray) ([] : List ByteArray) ([] : List Int) 0).bind fun t128 => (some (t128.toList == ([50, 32, 49, 32, 48, 32, 48, 32, 48, 32, 48, 32, 51] : List UInt8)))) else (some false)))))) else (some false)) else (some false)) = some r := H
  have A2 := Aside0.mk A20
  clear A20
  by_cases c3 : t122 = 6
  · rw [if_pos c3] at H
    have c3b0 : (t122 == 6) = true := beq_iff_eq.mpr c3
    have c3b1 : (t122 != 6) = false := bne_eq_false_iff_eq.mpr c3
    clear c3
    by_cases c4 : t123 = true
    · subst c4
      have H1 : (if t125 = true then (some false) else ((perms_Prot.f k 2 true false).bind fun t126 => (if t126 = true then (some false) else ((perms_Prot.f k 2 true true).bind fun t127 => (if t127 = true then ((perms_Stat.f 2 0 1 0 0 0 0 (⟨#[97, 98, 99]⟩ : ByteArray) ([] : List ByteArray) ([] : List Int) 0).bind fun t128 => (some (t128.toList == ([50, 32, 49, 32, 48, 32, 48, 32, 48, 32, 48, 32, 51] : List UInt8)))) else (some false)))))) = some r := by rw [if_pos rfl] at H; exact H
      clear H
      have H := H1
      clear H1
      by_cases c5 : t125 = true
      · subst c5
        have H1 : (some false) = some r := by rw [if_pos rfl] at H; exact H
        clear H
        have H := H1
        clear H1
        obtain rfl := Option.some.inj H
        go_enter Tryd.func7, Tryd.ntmps7
        go_wp2_with (first | ((with_reducible refine gate_callee (f := 8) rfl ?_); refine goesL_ (some 6) rfl rfl Tryd.func8 (by kernel_rfl) rfl #[.int .i64 3] rfl (by (try simp only [List.map_toArray, List.map_cons, List.map_nil]); first | done | rfl | (simp only [List.length_drop, List.length_take]; rfl)) ?_; (with_reducible refine (perms_Flags.calls k 3 t122 true _ A1.out).mono ?_); rintro e w6 ⟨rfl, hb⟩; refine ⟨_, rfl, ?_⟩; have n0_ := Aside0.mk (below_step (by repeat (first | (with_reducible first | exact HB.out | apply below_alloc | apply pw_below_drewN | apply below_drew1) | exact HB.out)) hb); clear HB; have HB := n0_; clear n0_; (try clear hb); (try clear hb2); (try clear hk); (try clear hi)) | ((with_reducible refine gate_callee (f := 8) rfl ?_); refine goesL_ (some 10) rfl rfl Tryd.func8 (by kernel_rfl) rfl #[.int .i64 4] rfl (by (try simp only [List.map_toArray, List.map_cons, List.map_nil]); first | done | rfl | (simp only [List.length_drop, List.length_take]; rfl)) ?_; (with_reducible refine (perms_Flags.calls k 4 t124 true _ A2.out).mono ?_); rintro e w7 ⟨rfl, hb⟩; refine ⟨_, rfl, ?_⟩; have n0_ := Aside0.mk (below_step (by repeat (first | (with_reducible first | exact HB.out | apply below_alloc | apply pw_below_drewN | apply below_drew1) | exact HB.out)) hb); clear HB; have HB := n0_; clear n0_; (try clear hb); (try clear hb2); (try clear hk); (try clear hi)))
        go_ret
        exact ⟨by first | rfl | (simp [errW_none, errW_some] <;> rfl) | (simp [*, errW_none, errW_some] <;> rfl), by repeat (first | (with_reducible first | exact HB.out | apply below_alloc | apply pw_below_drewN | apply below_drew1) | exact HB.out)⟩
      · replace c5 := Bool.eq_false_iff.mpr c5
        subst c5
        have H1 : ((perms_Prot.f k 2 true false).bind fun t126 => (if t126 = true then (some false) else ((perms_Prot.f k 2 true true).bind fun t127 => (if t127 = true then ((perms_Stat.f 2 0 1 0 0 0 0 (⟨#[97, 98, 99]⟩ : ByteArray) ([] : List ByteArray) ([] : List Int) 0).bind fun t128 => (some (t128.toList == ([50, 32, 49, 32, 48, 32, 48, 32, 48, 32, 48, 32, 51] : List UInt8)))) else (some false))))) = some r := by rw [if_neg (show ¬ (false = true) by decide)] at H; exact H
        clear H
        have H := H1
        clear H1
        replace H := Option.bind_eq_some_iff.mp H
        obtain ⟨t126, A80, H⟩ := H
        replace H : (if t126 = true then (some false) else ((perms_Prot.f k 2 true true).bind fun t127 => (if t127 = true then ((perms_Stat.f 2 0 1 0 0 0 0 (⟨#[97, 98, 99]⟩ : ByteArray) ([] : List ByteArray) ([] : List Int) 0).bind fun t128 => (some (t128.toList == ([50, 32, 49, 32, 48, 32, 48, 32, 48, 32, 48, 32, 51] : List UInt8)))) else (some false)))) = some r := H
        have A8 := Aside0.mk A80
        clear A80
        by_cases c9 : t126 = true
        · subst c9
          have H1 : (some false) = some r := by rw [if_pos rfl] at H; exact H
          clear H
          have H := H1
          clear H1
          obtain rfl := Option.some.inj H
          go_enter Tryd.func7, Tryd.ntmps7
          go_wp2_with (first | ((with_reducible refine gate_callee (f := 8) rfl ?_); refine goesL_ (some 6) rfl rfl Tryd.func8 (by kernel_rfl) rfl #[.int .i64 3] rfl (by (try simp only [List.map_toArray, List.map_cons, List.map_nil]); first | done | rfl | (simp only [List.length_drop, List.length_take]; rfl)) ?_; (with_reducible refine (perms_Flags.calls k 3 t122 true _ A1.out).mono ?_); rintro e w10 ⟨rfl, hb⟩; refine ⟨_, rfl, ?_⟩; have n0_ := Aside0.mk (below_step (by repeat (first | (with_reducible first | exact HB.out | apply below_alloc | apply pw_below_drewN | apply below_drew1) | exact HB.out)) hb); clear HB; have HB := n0_; clear n0_; (try clear hb); (try clear hb2); (try clear hk); (try clear hi)) | ((with_reducible refine gate_callee (f := 8) rfl ?_); refine goesL_ (some 10) rfl rfl Tryd.func8 (by kernel_rfl) rfl #[.int .i64 4] rfl (by (try simp only [List.map_toArray, List.map_cons, List.map_nil]); first | done | rfl | (simp only [List.length_drop, List.length_take]; rfl)) ?_; (with_reducible refine (perms_Flags.calls k 4 t124 false _ A2.out).mono ?_); rintro e w11 ⟨rfl, hb⟩; refine ⟨_, rfl, ?_⟩; have n0_ := Aside0.mk (below_step (by repeat (first | (with_reducible first | exact HB.out | apply below_alloc | apply pw_below_drewN | apply below_drew1) | exact HB.out)) hb); clear HB; have HB := n0_; clear n0_; (try clear hb); (try clear hb2); (try clear hk); (try clear hi)) | (go_at_call 10; (with_reducible refine (perms_Prot.calls k 2 true false true _ A8.out).mono ?_); rintro e w12 ⟨rfl, hb⟩; have n0_ := Aside0.mk (below_step (by repeat (first | (with_reducible first | exact HB.out | apply below_alloc | apply pw_below_drewN | apply below_drew1) | exact HB.out)) hb); clear HB; have HB := n0_; clear n0_; (try clear hb); (try clear hb2); (try clear hk); (try clear hi)))
          go_ret
          exact ⟨by first | rfl | (simp [errW_none, errW_some] <;> rfl) | (simp [*, errW_none, errW_some] <;> rfl), by repeat (first | (with_reducible first | exact HB.out | apply below_alloc | apply pw_below_drewN | apply below_drew1) | exact HB.out)⟩
        · replace c9 := Bool.eq_false_iff.mpr c9
          subst c9
          have H1 : ((perms_Prot.f k 2 true true).bind fun t127 => (if t127 = true then ((perms_Stat.f 2 0 1 0 0 0 0 (⟨#[97, 98, 99]⟩ : ByteArray) ([] : List ByteArray) ([] : List Int) 0).bind fun t128 => (some (t128.toList == ([50, 32, 49, 32, 48, 32, 48, 32, 48, 32, 48, 32, 51] : List UInt8)))) else (some false))) = some r := by rw [if_neg (show ¬ (false = true) by decide)] at H; exact H
          clear H
          have H := H1
          clear H1
          replace H := Option.bind_eq_some_iff.mp H
          obtain ⟨t127, A130, H⟩ := H
          replace H : (if t127 = true then ((perms_Stat.f 2 0 1 0 0 0 0 (⟨#[97, 98, 99]⟩ : ByteArray) ([] : List ByteArray) ([] : List Int) 0).bind fun t128 => (some (t128.toList == ([50, 32, 49, 32, 48, 32, 48, 32, 48, 32, 48, 32, 51] : List UInt8)))) else (some false)) = some r := H
          have A13 := Aside0.mk A130
          clear A130
          by_cases c14 : t127 = true
          · subst c14
            have H1 : ((perms_Stat.f 2 0 1 0 0 0 0 (⟨#[97, 98, 99]⟩ : ByteArray) ([] : List ByteArray) ([] : List Int) 0).bind fun t128 => (some (t128.toList == ([50, 32, 49, 32, 48, 32, 48, 32, 48, 32, 48, 32, 51] : List UInt8)))) = some r := by rw [if_pos rfl] at H; exact H
            clear H
            have H := H1
            clear H1
            replace H := Option.bind_eq_some_iff.mp H
            obtain ⟨t128, A150, H⟩ := H
            replace H : (some (t128.toList == ([50, 32, 49, 32, 48, 32, 48, 32, 48, 32, 48, 32, 51] : List UInt8))) = some r := H
            have A15 := Aside0.mk A150
            clear A150
            obtain rfl := Option.some.inj H
            go_enter Tryd.func7, Tryd.ntmps7
            go_wp2_with (first | ((with_reducible refine gate_callee (f := 8) rfl ?_); refine goesL_ (some 6) rfl rfl Tryd.func8 (by kernel_rfl) rfl #[.int .i64 3] rfl (by (try simp only [List.map_toArray, List.map_cons, List.map_nil]); first | done | rfl | (simp only [List.length_drop, List.length_take]; rfl)) ?_; (with_reducible refine (perms_Flags.calls k 3 t122 true _ A1.out).mono ?_); rintro e w16 ⟨rfl, hb⟩; refine ⟨_, rfl, ?_⟩; have n0_ := Aside0.mk (below_step (by repeat (first | (with_reducible first | exact HB.out | apply below_alloc | apply pw_below_drewN | apply below_drew1) | exact HB.out)) hb); clear HB; have HB := n0_; clear n0_; (try clear hb); (try clear hb2); (try clear hk); (try clear hi)) | ((with_reducible refine gate_callee (f := 8) rfl ?_); refine goesL_ (some 10) rfl rfl Tryd.func8 (by kernel_rfl) rfl #[.int .i64 4] rfl (by (try simp only [List.map_toArray, List.map_cons, List.map_nil]); first | done | rfl | (simp only [List.length_drop, List.length_take]; rfl)) ?_; (with_reducible refine (perms_Flags.calls k 4 t124 false _ A2.out).mono ?_); rintro e w17 ⟨rfl, hb⟩; refine ⟨_, rfl, ?_⟩; have n0_ := Aside0.mk (below_step (by repeat (first | (with_reducible first | exact HB.out | apply below_alloc | apply pw_below_drewN | apply below_drew1) | exact HB.out)) hb); clear HB; have HB := n0_; clear n0_; (try clear hb); (try clear hb2); (try clear hk); (try clear hi)) | (go_at_call 10; (with_reducible refine (perms_Prot.calls k 2 true false false _ A8.out).mono ?_); rintro e w18 ⟨rfl, hb⟩; have n0_ := Aside0.mk (below_step (by repeat (first | (with_reducible first | exact HB.out | apply below_alloc | apply pw_below_drewN | apply below_drew1) | exact HB.out)) hb); clear HB; have HB := n0_; clear n0_; (try clear hb); (try clear hb2); (try clear hk); (try clear hi)) | (go_at_call 10; (with_reducible refine (perms_Prot.calls k 2 true true true _ A13.out).mono ?_); rintro e w19 ⟨rfl, hb⟩; have n0_ := Aside0.mk (below_step (by repeat (first | (with_reducible first | exact HB.out | apply below_alloc | apply pw_below_drewN | apply below_drew1) | exact HB.out)) hb); clear HB; have HB := n0_; clear n0_; (try clear hb); (try clear hb2); (try clear hk); (try clear hi)) | (go_at_call 11; (refine (perms_Stat.calls 2 0 1 0 0 0 0 (⟨#[97, 98, 99]⟩ : ByteArray) _ _ ([] : List ByteArray) _ _ ([] : List Int) 0 t128 _ ?side1 ?side2 ?side3 ?side4 A15.out).mono ?_); (case side1 => exact Kd.C_nil _ _); (case side2 => exact Nat.le_refl _); (case side3 => exact Kd.C_nil _ _); (case side4 => exact Nat.le_refl _); rintro e w20 ⟨rfl, hb⟩; have n0_ := Aside0.mk (below_step (by repeat (first | (with_reducible first | exact HB.out | apply below_alloc | apply pw_below_drewN | apply below_drew1) | exact HB.out)) hb); clear HB; have HB := n0_; clear n0_; (try clear hb); (try clear hb2); (try clear hk); (try clear hi)))
            go_ret
            exact ⟨by first | rfl | (simp [errW_none, errW_some] <;> rfl) | (simp [*, errW_none, errW_some] <;> rfl), by repeat (first | (with_reducible first | exact HB.out | apply below_alloc | apply pw_below_drewN | apply below_drew1) | exact HB.out)⟩
          · replace c14 := Bool.eq_false_iff.mpr c14
            subst c14
            have H1 : (some false) = some r := by rw [if_neg (show ¬ (false = true) by decide)] at H; exact H
            clear H
            have H := H1
            clear H1
            obtain rfl := Option.some.inj H
            go_enter Tryd.func7, Tryd.ntmps7
            go_wp2_with (first | ((with_reducible refine gate_callee (f := 8) rfl ?_); refine goesL_ (some 6) rfl rfl Tryd.func8 (by kernel_rfl) rfl #[.int .i64 3] rfl (by (try simp only [List.map_toArray, List.map_cons, List.map_nil]); first | done | rfl | (simp only [List.length_drop, List.length_take]; rfl)) ?_; (with_reducible refine (perms_Flags.calls k 3 t122 true _ A1.out).mono ?_); rintro e w21 ⟨rfl, hb⟩; refine ⟨_, rfl, ?_⟩; have n0_ := Aside0.mk (below_step (by repeat (first | (with_reducible first | exact HB.out | apply below_alloc | apply pw_below_drewN | apply below_drew1) | exact HB.out)) hb); clear HB; have HB := n0_; clear n0_; (try clear hb); (try clear hb2); (try clear hk); (try clear hi)) | ((with_reducible refine gate_callee (f := 8) rfl ?_); refine goesL_ (some 10) rfl rfl Tryd.func8 (by kernel_rfl) rfl #[.int .i64 4] rfl (by (try simp only [List.map_toArray, List.map_cons, List.map_nil]); first | done | rfl | (simp only [List.length_drop, List.length_take]; rfl)) ?_; (with_reducible refine (perms_Flags.calls k 4 t124 false _ A2.out).mono ?_); rintro e w22 ⟨rfl, hb⟩; refine ⟨_, rfl, ?_⟩; have n0_ := Aside0.mk (below_step (by repeat (first | (with_reducible first | exact HB.out | apply below_alloc | apply pw_below_drewN | apply below_drew1) | exact HB.out)) hb); clear HB; have HB := n0_; clear n0_; (try clear hb); (try clear hb2); (try clear hk); (try clear hi)) | (go_at_call 10; (with_reducible refine (perms_Prot.calls k 2 true false false _ A8.out).mono ?_); rintro e w23 ⟨rfl, hb⟩; have n0_ := Aside0.mk (below_step (by repeat (first | (with_reducible first | exact HB.out | apply below_alloc | apply pw_below_drewN | apply below_drew1) | exact HB.out)) hb); clear HB; have HB := n0_; clear n0_; (try clear hb); (try clear hb2); (try clear hk); (try clear hi)) | (go_at_call 10; (with_reducible refine (perms_Prot.calls k 2 true true false _ A13.out).mono ?_); rintro e w24 ⟨rfl, hb⟩; have n0_ := Aside0.mk (below_step (by repeat (first | (with_reducible first | exact HB.out | apply below_alloc | apply pw_below_drewN | apply below_drew1) | exact HB.out)) hb); clear HB; have HB := n0_; clear n0_; (try clear hb); (try clear hb2); (try clear hk); (try clear hi)))
            go_ret
            exact ⟨by first | rfl | (simp [errW_none, errW_some] <;> rfl) | (simp [*, errW_none, errW_some] <;> rfl), by repeat (first | (with_reducible first | exact HB.out | apply below_alloc | apply pw_below_drewN | apply below_drew1) | exact HB.out)⟩
    · replace c4 := Bool.eq_false_iff.mpr c4
      subst c4
      have H1 : (some false) = some r := by rw [if_neg (show ¬ (false = true) by decide)] at H; exact H
      clear H
      have H := H1
      clear H1
      obtain rfl := Option.some.inj H
      go_enter Tryd.func7, Tryd.ntmps7
      go_wp2_with (first | ((with_reducible refine gate_callee (f := 8) rfl ?_); refine goesL_ (some 6) rfl rfl Tryd.func8 (by kernel_rfl) rfl #[.int .i64 3] rfl (by (try simp only [List.map_toArray, List.map_cons, List.map_nil]); first | done | rfl | (simp only [List.length_drop, List.length_take]; rfl)) ?_; (with_reducible refine (perms_Flags.calls k 3 t122 false _ A1.out).mono ?_); rintro e w25 ⟨rfl, hb⟩; refine ⟨_, rfl, ?_⟩; have n0_ := Aside0.mk (below_step (by repeat (first | (with_reducible first | exact HB.out | apply below_alloc | apply pw_below_drewN | apply below_drew1) | exact HB.out)) hb); clear HB; have HB := n0_; clear n0_; (try clear hb); (try clear hb2); (try clear hk); (try clear hi)) | ((with_reducible refine gate_callee (f := 8) rfl ?_); refine goesL_ (some 10) rfl rfl Tryd.func8 (by kernel_rfl) rfl #[.int .i64 4] rfl (by (try simp only [List.map_toArray, List.map_cons, List.map_nil]); first | done | rfl | (simp only [List.length_drop, List.length_take]; rfl)) ?_; (with_reducible refine (perms_Flags.calls k 4 t124 t125 _ A2.out).mono ?_); rintro e w26 ⟨rfl, hb⟩; refine ⟨_, rfl, ?_⟩; have n0_ := Aside0.mk (below_step (by repeat (first | (with_reducible first | exact HB.out | apply below_alloc | apply pw_below_drewN | apply below_drew1) | exact HB.out)) hb); clear HB; have HB := n0_; clear n0_; (try clear hb); (try clear hb2); (try clear hk); (try clear hi)))
      go_ret
      exact ⟨by first | rfl | (simp [errW_none, errW_some] <;> rfl) | (simp [*, errW_none, errW_some] <;> rfl), by repeat (first | (with_reducible first | exact HB.out | apply below_alloc | apply pw_below_drewN | apply below_drew1) | exact HB.out)⟩
  · rw [if_neg c3] at H
    have c3b0 : (t122 == 6) = false := beq_eq_false_iff_ne.mpr c3
    have c3b1 : (t122 != 6) = true := bne_iff_ne.mpr c3
    obtain rfl := Option.some.inj H
    go_enter Tryd.func7, Tryd.ntmps7
    go_wp2_with (first | ((with_reducible refine gate_callee (f := 8) rfl ?_); refine goesL_ (some 6) rfl rfl Tryd.func8 (by kernel_rfl) rfl #[.int .i64 3] rfl (by (try simp only [List.map_toArray, List.map_cons, List.map_nil]); first | done | rfl | (simp only [List.length_drop, List.length_take]; rfl)) ?_; (with_reducible refine (perms_Flags.calls k 3 t122 t123 _ A1.out).mono ?_); rintro e w27 ⟨rfl, hb⟩; refine ⟨_, rfl, ?_⟩; have n0_ := Aside0.mk (below_step (by repeat (first | (with_reducible first | exact HB.out | apply below_alloc | apply pw_below_drewN | apply below_drew1) | exact HB.out)) hb); clear HB; have HB := n0_; clear n0_; (try clear hb); (try clear hb2); (try clear hk); (try clear hi)) | ((with_reducible refine gate_callee (f := 8) rfl ?_); refine goesL_ (some 10) rfl rfl Tryd.func8 (by kernel_rfl) rfl #[.int .i64 4] rfl (by (try simp only [List.map_toArray, List.map_cons, List.map_nil]); first | done | rfl | (simp only [List.length_drop, List.length_take]; rfl)) ?_; (with_reducible refine (perms_Flags.calls k 4 t124 t125 _ A2.out).mono ?_); rintro e w28 ⟨rfl, hb⟩; refine ⟨_, rfl, ?_⟩; have n0_ := Aside0.mk (below_step (by repeat (first | (with_reducible first | exact HB.out | apply below_alloc | apply pw_below_drewN | apply below_drew1) | exact HB.out)) hb); clear HB; have HB := n0_; clear n0_; (try clear hb); (try clear hb2); (try clear hk); (try clear hi)))
    go_ret
    exact ⟨by first | rfl | (simp [errW_none, errW_some] <;> rfl) | (simp [*, errW_none, errW_some] <;> rfl), by repeat (first | (with_reducible first | exact HB.out | apply below_alloc | apply pw_below_drewN | apply below_drew1) | exact HB.out)⟩

/-! ### halberdref23_Size: function 22 -/
def halberdref23_Size.f (a0_0 : Int) (a0_1 : Int) (a0_2 : Int) (a0_3 : Int) (a0_4 : Int) (a0_5 : Int) (a0_6 : Int) (a0_7 : ByteArray) (l0_8 : List ByteArray) (l0_9 : List Int) (a0_10 : Int) : Option (Int) := if a0_2 = 2 then (some (l0_8.length : Int)) else (some (a0_7.size : Int))
set_option maxHeartbeats 8000000 in
set_option maxRecDepth 100000 in
theorem halberdref23_Size.calls (a0_0 : Int) (a0_1 : Int) (a0_2 : Int) (a0_3 : Int) (a0_4 : Int) (a0_5 : Int) (a0_6 : Int) (a0_7 : ByteArray) (A0_8 : Option Addr) (c0_8 : Nat) (l0_8 : List ByteArray) (A0_9 : Option Addr) (c0_9 : Nat) (l0_9 : List Int) (a0_10 : Int) (r : Int) (w : World) (hr0_8 : Kd.C Kd.string w A0_8 l0_8.length l0_8) (hc0_8 : l0_8.length ≤ c0_8) (hr0_9 : Kd.C (Kd.int .i64) w A0_9 l0_9.length l0_9) (hc0_9 : l0_9.length ≤ c0_9) (h : halberdref23_Size.f a0_0 a0_1 a0_2 a0_3 a0_4 a0_5 a0_6 a0_7 l0_8 l0_9 a0_10 = some r) :
    Calls Tryd.prog 22 #[.agg #[.int .i64 a0_0, .int .i64 a0_1, .int .i64 a0_2, .int .i64 a0_3, .int .i64 a0_4, .int .i64 a0_5, .int .i64 a0_6, .string a0_7, .slice A0_8 l0_8.length c0_8, .slice A0_9 l0_9.length c0_9, .int .i64 a0_10]] w fun e w' => e = .returned (.int .i64 r) ∧ Below w.heap.size w w' := by
  have hu31 := Tryd.underlying31
  have HR0_8 := Aside0.mk hr0_8
  have HC0_8 := Aside0.mk hc0_8
  clear hr0_8 hc0_8
  have HR0_9 := Aside0.mk hr0_9
  have HC0_9 := Aside0.mk hc0_9
  clear hr0_9 hc0_9
  have HB := Aside0.mk (Below.refl w.heap.size w)
  have H : (if a0_2 = 2 then (some (l0_8.length : Int)) else (some (a0_7.size : Int))) = some r := h
  clear h
  by_cases c2 : a0_2 = 2
  · rw [if_pos c2] at H
    have c2b0 : (a0_2 == 2) = true := beq_iff_eq.mpr c2
    have c2b1 : (a0_2 != 2) = false := bne_eq_false_iff_eq.mpr c2
    clear c2
    obtain rfl := Option.some.inj H
    go_enter Tryd.func22, Tryd.ntmps22
    go_wp2_with (first | ((with_reducible refine gate_dst (N := 1) rfl ?_); refine box_event ?hg (N := 1) ?hd (cs := #[.int .i64 a0_0, .int .i64 a0_1, .int .i64 a0_2, .int .i64 a0_3, .int .i64 a0_4, .int .i64 a0_5, .int .i64 a0_6, .string a0_7, .slice A0_8 l0_8.length c0_8, .slice A0_9 l0_9.length c0_9, .int .i64 a0_10]) (t := 31) ?hr ?_; (case hd => rfl); (case hg => rfl); (case hr => first | (go_simp; done) | (go_simp; rfl)); intro gb129 hg w3 hbox hb; have n0_ := Aside0.mk (below_step (by repeat (first | (with_reducible first | exact HB.out | apply below_alloc | apply pw_below_drewN | apply below_drew1) | exact HB.out)) hb); have n1_ := Aside0.mk (hbox); have n2_ := Aside0.mk ((by rw [hg]; exact (below_size (by repeat (first | (with_reducible first | exact HB.out | apply below_alloc | apply pw_below_drewN | apply below_drew1) | exact HB.out))) : w.heap.size ≤ gb129)); have n3_ := Aside0.mk ((by rw [hg]; exact (below_size (by repeat (first | (with_reducible first | exact HB.out | apply below_alloc | apply pw_below_drewN | apply below_drew1) | exact HB.out))) : w.heap.size ≤ gb129)); clear HB; have HB := n0_; have BK129 := n1_; have GW129 := n2_; have GE129 := n3_; clear n0_ n1_ n2_ n3_; clear hb hbox hg; have hcz4_0 : w3.cell? ⟨gb129, 0, none⟩ = some (.int .i64 a0_0) := (blk_cell BK129.out 0).trans rfl; have hcz4_1 : w3.cell? ⟨gb129, 1, none⟩ = some (.int .i64 a0_1) := (blk_cell BK129.out 1).trans rfl; have hcz4_2 : w3.cell? ⟨gb129, 2, none⟩ = some (.int .i64 a0_2) := (blk_cell BK129.out 2).trans rfl; have hcz4_3 : w3.cell? ⟨gb129, 3, none⟩ = some (.int .i64 a0_3) := (blk_cell BK129.out 3).trans rfl; have hcz4_4 : w3.cell? ⟨gb129, 4, none⟩ = some (.int .i64 a0_4) := (blk_cell BK129.out 4).trans rfl; have hcz4_5 : w3.cell? ⟨gb129, 5, none⟩ = some (.int .i64 a0_5) := (blk_cell BK129.out 5).trans rfl; have hcz4_6 : w3.cell? ⟨gb129, 6, none⟩ = some (.int .i64 a0_6) := (blk_cell BK129.out 6).trans rfl; have hcz4_7 : w3.cell? ⟨gb129, 7, none⟩ = some (.string a0_7) := (blk_cell BK129.out 7).trans rfl; have hcz4_8 : w3.cell? ⟨gb129, 8, none⟩ = some (.slice A0_8 l0_8.length c0_8) := (blk_cell BK129.out 8).trans rfl; have hcz4_9 : w3.cell? ⟨gb129, 9, none⟩ = some (.slice A0_9 l0_9.length c0_9) := (blk_cell BK129.out 9).trans rfl; have hcz4_10 : w3.cell? ⟨gb129, 10, none⟩ = some (.int .i64 a0_10) := (blk_cell BK129.out 10).trans rfl; have hfz4_0 := blk_frozen BK129.out 0; have hfz4_1 := blk_frozen BK129.out 1; have hfz4_2 := blk_frozen BK129.out 2; have hfz4_3 := blk_frozen BK129.out 3; have hfz4_4 := blk_frozen BK129.out 4; have hfz4_5 := blk_frozen BK129.out 5; have hfz4_6 := blk_frozen BK129.out 6; have hfz4_7 := blk_frozen BK129.out 7; have hfz4_8 := blk_frozen BK129.out 8; have hfz4_9 := blk_frozen BK129.out 9; have hfz4_10 := blk_frozen BK129.out 10))
    go_ret
    exact ⟨by first | rfl | (simp [errW_none, errW_some] <;> rfl) | (simp [*, errW_none, errW_some] <;> rfl), by repeat (first | (with_reducible first | exact HB.out | apply below_alloc | apply pw_below_drewN | apply below_drew1 | refine below_set ?_ GE129.out) | exact HB.out)⟩
  · rw [if_neg c2] at H
    have c2b0 : (a0_2 == 2) = false := beq_eq_false_iff_ne.mpr c2
    have c2b1 : (a0_2 != 2) = true := bne_iff_ne.mpr c2
    obtain rfl := Option.some.inj H
    go_enter Tryd.func22, Tryd.ntmps22
    go_wp2_with (first | ((with_reducible refine gate_dst (N := 1) rfl ?_); refine box_event ?hg (N := 1) ?hd (cs := #[.int .i64 a0_0, .int .i64 a0_1, .int .i64 a0_2, .int .i64 a0_3, .int .i64 a0_4, .int .i64 a0_5, .int .i64 a0_6, .string a0_7, .slice A0_8 l0_8.length c0_8, .slice A0_9 l0_9.length c0_9, .int .i64 a0_10]) (t := 31) ?hr ?_; (case hd => rfl); (case hg => rfl); (case hr => first | (go_simp; done) | (go_simp; rfl)); intro gb129 hg w5 hbox hb; have n0_ := Aside0.mk (below_step (by repeat (first | (with_reducible first | exact HB.out | apply below_alloc | apply pw_below_drewN | apply below_drew1) | exact HB.out)) hb); have n1_ := Aside0.mk (hbox); have n2_ := Aside0.mk ((by rw [hg]; exact (below_size (by repeat (first | (with_reducible first | exact HB.out | apply below_alloc | apply pw_below_drewN | apply below_drew1) | exact HB.out))) : w.heap.size ≤ gb129)); have n3_ := Aside0.mk ((by rw [hg]; exact (below_size (by repeat (first | (with_reducible first | exact HB.out | apply below_alloc | apply pw_below_drewN | apply below_drew1) | exact HB.out))) : w.heap.size ≤ gb129)); clear HB; have HB := n0_; have BK129 := n1_; have GW129 := n2_; have GE129 := n3_; clear n0_ n1_ n2_ n3_; clear hb hbox hg; have hcz6_0 : w5.cell? ⟨gb129, 0, none⟩ = some (.int .i64 a0_0) := (blk_cell BK129.out 0).trans rfl; have hcz6_1 : w5.cell? ⟨gb129, 1, none⟩ = some (.int .i64 a0_1) := (blk_cell BK129.out 1).trans rfl; have hcz6_2 : w5.cell? ⟨gb129, 2, none⟩ = some (.int .i64 a0_2) := (blk_cell BK129.out 2).trans rfl; have hcz6_3 : w5.cell? ⟨gb129, 3, none⟩ = some (.int .i64 a0_3) := (blk_cell BK129.out 3).trans rfl; have hcz6_4 : w5.cell? ⟨gb129, 4, none⟩ = some (.int .i64 a0_4) := (blk_cell BK129.out 4).trans rfl; have hcz6_5 : w5.cell? ⟨gb129, 5, none⟩ = some (.int .i64 a0_5) := (blk_cell BK129.out 5).trans rfl; have hcz6_6 : w5.cell? ⟨gb129, 6, none⟩ = some (.int .i64 a0_6) := (blk_cell BK129.out 6).trans rfl; have hcz6_7 : w5.cell? ⟨gb129, 7, none⟩ = some (.string a0_7) := (blk_cell BK129.out 7).trans rfl; have hcz6_8 : w5.cell? ⟨gb129, 8, none⟩ = some (.slice A0_8 l0_8.length c0_8) := (blk_cell BK129.out 8).trans rfl; have hcz6_9 : w5.cell? ⟨gb129, 9, none⟩ = some (.slice A0_9 l0_9.length c0_9) := (blk_cell BK129.out 9).trans rfl; have hcz6_10 : w5.cell? ⟨gb129, 10, none⟩ = some (.int .i64 a0_10) := (blk_cell BK129.out 10).trans rfl; have hfz6_0 := blk_frozen BK129.out 0; have hfz6_1 := blk_frozen BK129.out 1; have hfz6_2 := blk_frozen BK129.out 2; have hfz6_3 := blk_frozen BK129.out 3; have hfz6_4 := blk_frozen BK129.out 4; have hfz6_5 := blk_frozen BK129.out 5; have hfz6_6 := blk_frozen BK129.out 6; have hfz6_7 := blk_frozen BK129.out 7; have hfz6_8 := blk_frozen BK129.out 8; have hfz6_9 := blk_frozen BK129.out 9; have hfz6_10 := blk_frozen BK129.out 10))
    go_ret
    exact ⟨by first | rfl | (simp [errW_none, errW_some] <;> rfl) | (simp [*, errW_none, errW_some] <;> rfl), by repeat (first | (with_reducible first | exact HB.out | apply below_alloc | apply pw_below_drewN | apply below_drew1 | refine below_set ?_ GE129.out) | exact HB.out)⟩

end Go.Proofs.YtkbngkhajkhfgaaDoor.PPermsStat
