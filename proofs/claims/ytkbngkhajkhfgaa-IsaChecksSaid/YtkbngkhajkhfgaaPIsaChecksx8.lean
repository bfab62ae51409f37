/- Functions of the program that some laws reach, as Lean functions, and proofs that the program's calls come to what they say: written by a program, for the texts that import it; each theorem bears its own conditions. -/
import Derived.Test.YtkbngkhajkhfgaaPIsaChecksx0
import Derived.Test.YtkbngkhajkhfgaaPIsaChecksx1
import Derived.Test.YtkbngkhajkhfgaaPIsaChecksx6
import Derived.Test.YtkbngkhajkhfgaaPIsaChecksx7
namespace Go.Proofs.Ytkbngkhajkhfgaa.PIsaChecks
open Go.RowKit Go.Proofs.YtkbngkhajkhfgaaW.PrintWords Go.Proofs.YtkbngkhajkhfgaaW.PrintLast Go.Proofs.YtkbngkhajkhfgaaW.PrintMore
attribute [local go_sem] max2_int min2_int max_two min_two max_three min_three max_four min_four   -- for this text's walks alone
set_option linter.unusedVariables false
set_option linter.unusedSimpArgs false

attribute [local go_sem high] eqA24
/-! ### halberdref03_Check: function 19 -/
mutual
def halberdref03_Check.j0 : Nat → List (S24) → Int → Bool → Option (Bool)
  | 0, _, _, _ => none
  | k + 1, x0, x1, x17 => if x17 = true then (some false) else ((halberdref03_Seconds.f k x0).bind fun t167 => (halberdref03_Check.l0 k x0 x1 t167 0))
def halberdref03_Check.l0 : Nat → List (S24) → Int → List Bool → Int → Option (Bool)
  | 0, _, _, _, _ => none
  | k + 1, x0, x1, x5, x6 => if x6 < (x0.length : Int) then (if 0 ≤ x6 then (if x6 < (x5.length : Int) then (if rdOf false x5 x6 = true then (halberdref03_Check.l0 k x0 x1 x5 (wrap64 (x6 + 1))) else ((halberdref03_Right.f k ((rd_T24 x0 x6).f0) ((rd_T24 x0 x6).f1) ((rd_T24 x0 x6).f2) ((rd_T24 x0 x6).f3) ((rd_T24 x0 x6).f4)).bind fun t174 => (if t174 = true then (if ((rd_T24 x0 x6).f0) = 24 then (if (wrap64 (x6 + 1)) = (x0.length : Int) then (halberdref03_Check.j2 k x0 x1 x5 x6 true ((rd_T24 x0 x6).f0) ((rd_T24 x0 x6).f1) ((rd_T24 x0 x6).f2) ((rd_T24 x0 x6).f3) ((rd_T24 x0 x6).f4)) else (if 0 ≤ (wrap64 (x6 + 1)) then (if (wrap64 (x6 + 1)) < (x5.length : Int) then (halberdref03_Check.j2 k x0 x1 x5 x6 (!(rdOf false x5 (wrap64 (x6 + 1)))) ((rd_T24 x0 x6).f0) ((rd_T24 x0 x6).f1) ((rd_T24 x0 x6).f2) ((rd_T24 x0 x6).f3) ((rd_T24 x0 x6).f4)) else (none)) else (none))) else (halberdref03_Check.j3 k x0 x1 x5 x6 ((rd_T24 x0 x6).f0) ((rd_T24 x0 x6).f1) ((rd_T24 x0 x6).f2) ((rd_T24 x0 x6).f3) ((rd_T24 x0 x6).f4))) else (some false)))) else (none)) else (none)) else (if 0 ≤ (wrap64 ((x0.length : Int) - 1)) then (if (wrap64 ((x0.length : Int) - 1)) < (x0.length : Int) then (some (((rd_T24 x0 (wrap64 ((x0.length : Int) - 1))).f0) == 149 && (((rd_T24 x0 (wrap64 ((x0.length : Int) - 1))).f1) == 0 && (((rd_T24 x0 (wrap64 ((x0.length : Int) - 1))).f2) == 0 && (((rd_T24 x0 (wrap64 ((x0.length : Int) - 1))).f3) == 0 && (((rd_T24 x0 (wrap64 ((x0.length : Int) - 1))).f4) == 0)))))) else (none)) else (none))
def halberdref03_Check.j3 : Nat → List (S24) → Int → List Bool → Int → Int → Int → Int → Int → Int → Option (Bool)
  | 0, _, _, _, _, _, _, _, _, _ => none
  | k + 1, x0, x1, x5, x6, x173000, x173001, x173002, x173003, x173004 => (halberdref03_Jump.f x173000 x173001 x173002 x173003 x173004).bind fun t178 => (if t178 = true then (if x173003 < 0 then (some false) else (if (wrap64 ((wrap64 (x6 + 1)) + (wrap64 (x173003)))) ≥ (x0.length : Int) then (some false) else (if 0 ≤ (wrap64 ((wrap64 (x6 + 1)) + (wrap64 (x173003)))) then (if (wrap64 ((wrap64 (x6 + 1)) + (wrap64 (x173003)))) < (x5.length : Int) then (if rdOf false x5 (wrap64 ((wrap64 (x6 + 1)) + (wrap64 (x173003)))) = true then (some false) else (halberdref03_Check.l0 k x0 x1 x5 (wrap64 (x6 + 1)))) else (none)) else (none)))) else (halberdref03_Check.l0 k x0 x1 x5 (wrap64 (x6 + 1))))
def halberdref03_Check.j2 : Nat → List (S24) → Int → List Bool → Int → Bool → Int → Int → Int → Int → Int → Option (Bool)
  | 0, _, _, _, _, _, _, _, _, _, _ => none
  | k + 1, x0, x1, x5, x6, x52, x173000, x173001, x173002, x173003, x173004 => if x52 = true then (some false) else (if 0 ≤ (wrap64 (x6 + 1)) then (if (wrap64 (x6 + 1)) < (x0.length : Int) then ((halberdref02_Wide.f k x173000 x173001 x173002 x173003 x173004 ((rd_T24 x0 (wrap64 (x6 + 1))).f0) ((rd_T24 x0 (wrap64 (x6 + 1))).f1) ((rd_T24 x0 (wrap64 (x6 + 1))).f2) ((rd_T24 x0 (wrap64 (x6 + 1))).f3) ((rd_T24 x0 (wrap64 (x6 + 1))).f4)).bind fun t177 => (if x173002 = 1 then (if x1 < 1 then (some false) else (if t177 ≥ (IntKind.u64.wrap (x1)) then (some false) else (halberdref03_Check.j3 k x0 x1 x5 x6 x173000 x173001 x173002 x173003 x173004))) else (halberdref03_Check.j3 k x0 x1 x5 x6 x173000 x173001 x173002 x173003 x173004))) else (none)) else (none))
end
def halberdref03_Check.f (k : Nat) (l0 : List (S24)) (a1 : Int) : Option (Bool) := if (l0.length : Int) < 1 then (halberdref03_Check.j0 k l0 a1 true) else (halberdref03_Check.j0 k l0 a1 (decide ((l0.length : Int) > 64)))
theorem halberdref03_Check.mono_l : ∀ k, (∀ y0 y1 y2, LeO (halberdref03_Check.j0 k y0 y1 y2) (halberdref03_Check.j0 (k + 1) y0 y1 y2)) ∧ (∀ y0 y1 y2 y3, LeO (halberdref03_Check.l0 k y0 y1 y2 y3) (halberdref03_Check.l0 (k + 1) y0 y1 y2 y3)) ∧ (∀ y0 y1 y2 y3 y4 y5 y6 y7 y8, LeO (halberdref03_Check.j3 k y0 y1 y2 y3 y4 y5 y6 y7 y8) (halberdref03_Check.j3 (k + 1) y0 y1 y2 y3 y4 y5 y6 y7 y8)) ∧ (∀ y0 y1 y2 y3 y4 y5 y6 y7 y8 y9, LeO (halberdref03_Check.j2 k y0 y1 y2 y3 y4 y5 y6 y7 y8 y9) (halberdref03_Check.j2 (k + 1) y0 y1 y2 y3 y4 y5 y6 y7 y8 y9))
  | 0 => ⟨fun _ _ _ r h => by simp [halberdref03_Check.j0] at h, fun _ _ _ _ r h => by simp [halberdref03_Check.l0] at h, fun _ _ _ _ _ _ _ _ _ r h => by simp [halberdref03_Check.j3] at h, fun _ _ _ _ _ _ _ _ _ _ r h => by simp [halberdref03_Check.j2] at h⟩
  | k + 1 => by
    obtain ⟨ih0, ih1, ih2, ih3⟩ := halberdref03_Check.mono_l k
    refine ⟨?_, ?_, ?_, ?_⟩
    · intro y0 y1 y2
      unfold halberdref03_Check.j0
      repeat' first
      | (with_reducible exact ih0 _ _ _)
      | (with_reducible exact ih1 _ _ _ _)
      | (with_reducible exact ih2 _ _ _ _ _ _ _ _ _)
      | (with_reducible exact ih3 _ _ _ _ _ _ _ _ _ _)
      | (with_reducible exact halberdref02_Wide.mono _ _ _ _ _ _ _ _ _ _ _)
      | (with_reducible exact halberdref03_Right.mono _ _ _ _ _ _)
      | (with_reducible exact halberdref03_Seconds.mono _ _)
      | (with_reducible exact LeO.refl _)
      | (with_reducible exact LeO.none _)
      | (with_reducible refine LeO.ite ?_ ?_)
      | (with_reducible refine LeO.bind ?_ (fun _ => ?_))
      | exact ih0 _ _ _
      | exact ih1 _ _ _ _
      | exact ih2 _ _ _ _ _ _ _ _ _
      | exact ih3 _ _ _ _ _ _ _ _ _ _
      | exact halberdref02_Wide.mono _ _ _ _ _ _ _ _ _ _ _
      | exact halberdref03_Right.mono _ _ _ _ _ _
      | exact halberdref03_Seconds.mono _ _
      | exact LeO.none _
      | refine LeO.ite ?_ ?_
      | refine LeO.bind ?_ (fun _ => ?_)
    · intro y0 y1 y2 y3
      unfold halberdref03_Check.l0
      repeat' first
      | (with_reducible exact ih0 _ _ _)
      | (with_reducible exact ih1 _ _ _ _)
      | (with_reducible exact ih2 _ _ _ _ _ _ _ _ _)
      | (with_reducible exact ih3 _ _ _ _ _ _ _ _ _ _)
      | (with_reducible exact halberdref02_Wide.mono _ _ _ _ _ _ _ _ _ _ _)
      | (with_reducible exact halberdref03_Right.mono _ _ _ _ _ _)
      | (with_reducible exact halberdref03_Seconds.mono _ _)
      | (with_reducible exact LeO.refl _)
      | (with_reducible exact LeO.none _)
      | (with_reducible refine LeO.ite ?_ ?_)
      | (with_reducible refine LeO.bind ?_ (fun _ => ?_))
      | exact ih0 _ _ _
      | exact ih1 _ _ _ _
      | exact ih2 _ _ _ _ _ _ _ _ _
      | exact ih3 _ _ _ _ _ _ _ _ _ _
      | exact halberdref02_Wide.mono _ _ _ _ _ _ _ _ _ _ _
      | exact halberdref03_Right.mono _ _ _ _ _ _
      | exact halberdref03_Seconds.mono _ _
      | exact LeO.none _
      | refine LeO.ite ?_ ?_
      | refine LeO.bind ?_ (fun _ => ?_)
    · intro y0 y1 y2 y3 y4 y5 y6 y7 y8
      unfold halberdref03_Check.j3
      repeat' first
      | (with_reducible exact ih0 _ _ _)
      | (with_reducible exact ih1 _ _ _ _)
      | (with_reducible exact ih2 _ _ _ _ _ _ _ _ _)
      | (with_reducible exact ih3 _ _ _ _ _ _ _ _ _ _)
      | (with_reducible exact halberdref02_Wide.mono _ _ _ _ _ _ _ _ _ _ _)
      | (with_reducible exact halberdref03_Right.mono _ _ _ _ _ _)
      | (with_reducible exact halberdref03_Seconds.mono _ _)
      | (with_reducible exact LeO.refl _)
      | (with_reducible exact LeO.none _)
      | (with_reducible refine LeO.ite ?_ ?_)
      | (with_reducible refine LeO.bind ?_ (fun _ => ?_))
      | exact ih0 _ _ _
      | exact ih1 _ _ _ _
      | exact ih2 _ _ _ _ _ _ _ _ _
      | exact ih3 _ _ _ _ _ _ _ _ _ _
      | exact halberdref02_Wide.mono _ _ _ _ _ _ _ _ _ _ _
      | exact halberdref03_Right.mono _ _ _ _ _ _
      | exact halberdref03_Seconds.mono _ _
      | exact LeO.none _
      | refine LeO.ite ?_ ?_
      | refine LeO.bind ?_ (fun _ => ?_)
    · intro y0 y1 y2 y3 y4 y5 y6 y7 y8 y9
      unfold halberdref03_Check.j2
      repeat' first
      | (with_reducible exact ih0 _ _ _)
      | (with_reducible exact ih1 _ _ _ _)
      | (with_reducible exact ih2 _ _ _ _ _ _ _ _ _)
      | (with_reducible exact ih3 _ _ _ _ _ _ _ _ _ _)
      | (with_reducible exact halberdref02_Wide.mono _ _ _ _ _ _ _ _ _ _ _)
      | (with_reducible exact halberdref03_Right.mono _ _ _ _ _ _)
      | (with_reducible exact halberdref03_Seconds.mono _ _)
      | (with_reducible exact LeO.refl _)
      | (with_reducible exact LeO.none _)
      | (with_reducible refine LeO.ite ?_ ?_)
      | (with_reducible refine LeO.bind ?_ (fun _ => ?_))
      | exact ih0 _ _ _
      | exact ih1 _ _ _ _
      | exact ih2 _ _ _ _ _ _ _ _ _
      | exact ih3 _ _ _ _ _ _ _ _ _ _
      | exact halberdref02_Wide.mono _ _ _ _ _ _ _ _ _ _ _
      | exact halberdref03_Right.mono _ _ _ _ _ _
      | exact halberdref03_Seconds.mono _ _
      | exact LeO.none _
      | refine LeO.ite ?_ ?_
      | refine LeO.bind ?_ (fun _ => ?_)
theorem halberdref03_Check.mono : ∀ a0 a1 k, LeO (halberdref03_Check.f k a0 a1) (halberdref03_Check.f (k + 1) a0 a1) := by
  intro a0 a1 k
  obtain ⟨ih0, ih1, ih2, ih3⟩ := halberdref03_Check.mono_l k
  unfold halberdref03_Check.f
  repeat' first
      | (with_reducible exact ih0 _ _ _)
      | (with_reducible exact ih1 _ _ _ _)
      | (with_reducible exact ih2 _ _ _ _ _ _ _ _ _)
      | (with_reducible exact ih3 _ _ _ _ _ _ _ _ _ _)
      | (with_reducible exact halberdref02_Wide.mono _ _ _ _ _ _ _ _ _ _ _)
      | (with_reducible exact halberdref03_Right.mono _ _ _ _ _ _)
      | (with_reducible exact halberdref03_Seconds.mono _ _)
      | (with_reducible exact LeO.refl _)
      | (with_reducible exact LeO.none _)
      | (with_reducible refine LeO.ite ?_ ?_)
      | (with_reducible refine LeO.bind ?_ (fun _ => ?_))
      | exact ih0 _ _ _
      | exact ih1 _ _ _ _
      | exact ih2 _ _ _ _ _ _ _ _ _
      | exact ih3 _ _ _ _ _ _ _ _ _ _
      | exact halberdref02_Wide.mono _ _ _ _ _ _ _ _ _ _ _
      | exact halberdref03_Right.mono _ _ _ _ _ _
      | exact halberdref03_Seconds.mono _ _
      | exact LeO.none _
      | refine LeO.ite ?_ ?_
      | refine LeO.bind ?_ (fun _ => ?_)
def halberdref03_Check.T14 : Bool × List (List Nat × List Nat) := (true, [([], []), ([], []), ([], []), ([2], [2]), ([1, 3], [1, 3]), ([4], [4]), ([0, 5], [0, 5]), ([6, 6, 0, 1, 2, 3, 4, 5, 6], [6])])
def halberdref03_Check.B14 : List Nat := [0, 0, 0, 4, 14, 30, 63, 127]
theorem halberdref03_Check.tab14 : rtab .any (opsOf Try.f19 14) = halberdref03_Check.T14 := by kernel_rfl
theorem halberdref03_Check.bits14 : waitsOk halberdref03_Check.T14.2 halberdref03_Check.B14 = true := by kernel_rfl
set_option maxHeartbeats 8000000 in
set_option maxRecDepth 100000 in
theorem halberdref03_Check.calls (k : Nat) (A0 : Option Addr) (c0 : Nat) (l0 : List (S24)) (a1 : Int) (r : Bool) (w : World) (hr0 : Kd.C k24 w A0 l0.length l0) (hc0 : l0.length ≤ c0) (h : halberdref03_Check.f k l0 a1 = some r) :
    Calls Try.prog 19 #[.slice A0 l0.length c0, .int .i64 a1] w fun e w' => e = .returned (.bool r) ∧ Below w.heap.size w w' := by
  have hu24 := Try.underlying24
  have HR0 := Aside0.mk hr0
  have HC0 := Aside0.mk hc0
  clear hr0 hc0
  have HB := Aside0.mk (Below.refl w.heap.size w)
  have H : (if (l0.length : Int) < 1 then (halberdref03_Check.j0 k l0 a1 true) else (halberdref03_Check.j0 k l0 a1 (decide ((l0.length : Int) > 64)))) = some r := h
  clear h
  have HC3 := Aside0.mk H
  clear H
  go_enter Try.func19, Try.ntmps19
  go_upto_region 1 with (fail)
  go_cut [17] (fun v17 wc => ∃ (kq : Nat) (x17_2 : Bool), v17 = .bool x17_2 ∧ Aside0 (halberdref03_Check.j0 kq l0 a1 x17_2 = some r) ∧ Aside0 (kq ≤ k) ∧ Aside0 (Below w.heap.size w wc))
  case first =>
    have H := HC3.out
    clear HC3
    by_cases c4 : (l0.length : Int) < 1
    · rw [if_pos c4] at H
      have c4b0 : decide ((l0.length : Int) < 1) = true := decide_eq_true c4
      have c4b1 : decide (l0.length < 1) = true := decide_eq_true (by omega)
      clear c4
      (first | rw [c4b0] | (simp only [i64_w, i32_w]; rw [c4b0]) | skip)
      have H' := Aside0.mk H
      clear H
      go_wp2
      go_meet
      case rel => exact ⟨_, (true), (by first | rfl | (simp; done) | (simp [*]; done)), H', ⟨by first | omega | exact Nat.le_refl _⟩, ⟨by repeat (first | (with_reducible first | exact HB.out | apply below_alloc | apply pw_below_drewN | apply below_drew1) | exact HB.out)⟩⟩
    · rw [if_neg c4] at H
      have c4b0 : decide ((l0.length : Int) < 1) = false := decide_eq_false c4
      have c4b1 : decide (l0.length < 1) = false := decide_eq_false (by omega)
      clear c4
      (first | rw [c4b0] | (simp only [i64_w, i32_w]; rw [c4b0]) | skip)
      have H' := Aside0.mk H
      clear H
      go_wp2
      go_meet
      case rel => exact ⟨_, (decide ((l0.length : Int) > 64)), (by first | rfl | (simp; done) | (simp [*]; done)), H', ⟨by first | omega | exact Nat.le_refl _⟩, ⟨by repeat (first | (with_reducible first | exact HB.out | apply below_alloc | apply pw_below_drewN | apply below_drew1) | exact HB.out)⟩⟩
  case rest =>
    clear HC3
    try clear c1
    try clear p2
    try clear c4
    try clear c4b0
    try clear c4b1
    obtain ⟨kq, x17_2, rfl, HA, HJ2, HB⟩ := hcut
    cases kq with
    | zero => exact absurd HA.out (by simp [halberdref03_Check.j0])
    | succ kj2 =>
      have H := HA.out
      clear HA
      simp only [halberdref03_Check.j0] at H
      by_cases c5 : x17_2 = true
      · subst c5
        have H1 : (some false) = some r := by rw [if_pos rfl] at H; exact H
        clear H
        have H := H1
        clear H1
        obtain rfl := Option.some.inj H
        go_wp2
        go_ret
        exact ⟨by first | rfl | (simp [errW_none, errW_some] <;> rfl) | (simp [*, errW_none, errW_some] <;> rfl), by repeat (first | (with_reducible first | exact HB.out | apply below_alloc | apply pw_below_drewN | apply below_drew1) | exact HB.out)⟩
      · replace c5 := Bool.eq_false_iff.mpr c5
        subst c5
        have H1 : ((halberdref03_Seconds.f kj2 l0).bind fun t167 => (halberdref03_Check.l0 kj2 l0 a1 t167 0)) = some r := by rw [if_neg (show ¬ (false = true) by decide)] at H; exact H
        clear H
        have H := H1
        clear H1
        replace H := Option.bind_eq_some_iff.mp H
        obtain ⟨t167, A60, H⟩ := H
        replace H : (halberdref03_Check.l0 kj2 l0 a1 t167 0) = some r := H
        have A6 := Aside0.mk A60
        clear A60
        have H' := Aside0.mk H
        clear H
        go_wp2_with (first | ((with_reducible refine gate_callee (f := 16) rfl ?_); refine goesL_ (some 19) rfl rfl Try.func16 (by kernel_rfl) rfl #[.slice A0 l0.length c0] rfl (by (try simp only [List.map_toArray, List.map_cons, List.map_nil]); first | done | rfl | (simp only [List.length_drop, List.length_take]; rfl)) ?_; (with_reducible refine (halberdref03_Seconds.calls kj2 _ _ l0 t167 _ ?side1 ?side2 A6.out).mono ?_); (case side1 => repeat (first | exact (Kd.C_below HR0.out HB.out) | (with_reducible refine Kd.C_alloc ?_ _) | (with_reducible refine Kd.C_drewN ?_ _) | (with_reducible refine Kd.C_drew ?_))); (case side2 => exact HC0.out); rintro e w7 ⟨v168, rfl, ho0, hb⟩; refine ⟨_, rfl, ?_⟩; have n0_ := Aside0.mk (Kd.R_lower ho0 (below_size (by repeat (first | (with_reducible first | exact HB.out | apply below_alloc | apply pw_below_drewN | apply below_drew1) | exact HB.out)))); have n1_ := Aside0.mk (below_step (by repeat (first | (with_reducible first | exact HB.out | apply below_alloc | apply pw_below_drewN | apply below_drew1) | exact HB.out)) hb); clear HB; have HO169 := n0_; have HB := n1_; clear n0_ n1_; (try clear hb); (try clear hb2); (try clear hk); (try clear hi); (try clear ho0)))
        go_loopg [6] kj2 (fun kq v6 w' => ∃ (x6_2 : Int), v6 = .int .i64 x6_2 ∧ Aside0 (halberdref03_Check.l0 kq l0 a1 t167 x6_2 = some r) ∧ Aside0 (kq ≤ kj2) ∧ Aside0 (Kd.R Kd.bool 4 w' w.heap.size (fun _ => True) v168 t167) ∧ Aside0 (Below w.heap.size w w'))
        case atStart => exact ⟨(0), (by first | rfl | (simp; done) | (simp [*]; done)), H', ⟨Nat.le_refl _⟩, ⟨by (with_reducible repeat (first | apply Kd.R_alloc | apply Kd.R_drewN | apply Kd.R_drew)); exact HO169.out⟩, ⟨by repeat (first | (with_reducible first | exact HB.out | apply below_alloc | apply pw_below_drewN | apply below_drew1) | exact HB.out)⟩⟩
        case round =>
          clear H'
          try clear c1
          try clear p2
          try clear c4
          try clear c4b0
          try clear c4b1
          try clear c5
          try clear p2
          obtain ⟨x6_2, rfl, HA, HK2, HO_5, HB⟩ := hrel
          cases gk with
          | zero => exact absurd HA.out (by simp [halberdref03_Check.l0])
          | succ k2 =>
            have H := HA.out
            clear HA
            simp only [halberdref03_Check.l0] at H
            by_cases c8 : x6_2 < (l0.length : Int)
            · rw [if_pos c8] at H
              have c8b0 : decide (x6_2 < (l0.length : Int)) = true := decide_eq_true c8
              clear c8
              by_cases c9 : 0 ≤ x6_2
              · rw [if_pos c9] at H
                have c9b0 : decide (0 ≤ x6_2) = true := decide_eq_true c9
                clear c9
                by_cases c10 : x6_2 < (t167.length : Int)
                · rw [if_pos c10] at H
                  have c10b0 : decide (x6_2 < (t167.length : Int)) = true := decide_eq_true c10
                  clear c10
                  obtain ⟨bq11, hbq11⟩ : ∃ b_ : Bool, b_ = (rdOf false t167 x6_2) := ⟨_, rfl⟩
                  replace H : (if bq11 = true then (halberdref03_Check.l0 k2 l0 a1 t167 (wrap64 (x6_2 + 1))) else ((halberdref03_Right.f k2 ((rd_T24 l0 x6_2).f0) ((rd_T24 l0 x6_2).f1) ((rd_T24 l0 x6_2).f2) ((rd_T24 l0 x6_2).f3) ((rd_T24 l0 x6_2).f4)).bind fun t174 => (if t174 = true then (if ((rd_T24 l0 x6_2).f0) = 24 then (if (wrap64 (x6_2 + 1)) = (l0.length : Int) then (halberdref03_Check.j2 k2 l0 a1 t167 x6_2 true ((rd_T24 l0 x6_2).f0) ((rd_T24 l0 x6_2).f1) ((rd_T24 l0 x6_2).f2) ((rd_T24 l0 x6_2).f3) ((rd_T24 l0 x6_2).f4)) else (if 0 ≤ (wrap64 (x6_2 + 1)) then (if (wrap64 (x6_2 + 1)) < (t167.length : Int) then (halberdref03_Check.j2 k2 l0 a1 t167 x6_2 (!(rdOf false t167 (wrap64 (x6_2 + 1)))) ((rd_T24 l0 x6_2).f0) ((rd_T24 l0 x6_2).f1) ((rd_T24 l0 x6_2).f2) ((rd_T24 l0 x6_2).f3) ((rd_T24 l0 x6_2).f4)) else (none)) else (none))) else (halberdref03_Check.j3 k2 l0 a1 t167 x6_2 ((rd_T24 l0 x6_2).f0) ((rd_T24 l0 x6_2).f1) ((rd_T24 l0 x6_2).f2) ((rd_T24 l0 x6_2).f3) ((rd_T24 l0 x6_2).f4))) else (some false)))) = some r := by rw [← hbq11] at H; exact H
                  have Nbq11 := Aside0.mk hbq11
                  clear hbq11
                  by_cases c12 : bq11 = true
                  · subst c12
                    have H1 : (halberdref03_Check.l0 k2 l0 a1 t167 (wrap64 (x6_2 + 1))) = some r := by rw [if_pos rfl] at H; exact H
                    clear H
                    have H := H1
                    clear H1
                    have H' := Aside0.mk H
                    clear H
                    have p171 : 0 ≤ (x6_2 : Int) := of_decide_eq_true (by first | (with_reducible assumption) | assumption)
                    have q171 : x6_2 < (l0.length : Int) := of_decide_eq_true (by first | (with_reducible assumption) | assumption)
                    obtain ⟨ad171, e171, hx171_0, hx171_1, hx171_2, hx171_3, hx171_4⟩ := at_T24 HR0.out x6_2 p171 q171
                    cases e171
                    replace hx171_0 := (HB.out.cell (World.block_lt_of_cell? w _ hx171_0)).trans hx171_0
                    replace hx171_1 := (HB.out.cell (World.block_lt_of_cell? w _ hx171_1)).trans hx171_1
                    replace hx171_2 := (HB.out.cell (World.block_lt_of_cell? w _ hx171_2)).trans hx171_2
                    replace hx171_3 := (HB.out.cell (World.block_lt_of_cell? w _ hx171_3)).trans hx171_3
                    replace hx171_4 := (HB.out.cell (World.block_lt_of_cell? w _ hx171_4)).trans hx171_4
                    replace p171 := eq_true p171
                    replace q171 := eq_true q171
                    go_wp2_with (first | ((with_reducible refine gate_dst (N := 7) rfl ?_); (try (refine gate_guard (by rfl) ?_; dsimp only)); refine box_event ?hg (N := 7) ?hd (cs := #[.int .u8 0, .int .u8 0, .int .u8 0, .int .i16 0, .int .i32 0]) (t := 24) ?hr ?_; (case hd => rfl); (case hg => rfl); (case hr => first | (go_simp; done) | (go_simp; rfl)); intro gb172 hg w13 hbox hb; have n0_ := Aside0.mk (Kd.R_below (by (with_reducible repeat (first | apply Kd.R_alloc | apply Kd.R_drewN | apply Kd.R_drew)); exact HO_5.out) hb); have n1_ := Aside0.mk (below_step (by repeat (first | (with_reducible first | exact HB.out | apply below_alloc | apply pw_below_drewN | apply below_drew1) | exact HB.out)) hb); have n2_ := Aside0.mk (hbox); have n3_ := Aside0.mk ((by rw [hg]; exact (below_size (by repeat (first | (with_reducible first | exact HB.out | apply below_alloc | apply pw_below_drewN | apply below_drew1) | exact HB.out))) : w.heap.size ≤ gb172)); have n4_ := Aside0.mk ((by rw [hg]; exact (below_size (by repeat (first | (with_reducible first | exact HB.out | apply below_alloc | apply pw_below_drewN | apply below_drew1) | exact HB.out))) : w.heap.size ≤ gb172)); clear HO_5; clear HB; have HO_5 := n0_; have HB := n1_; have BK172 := n2_; have GW172 := n3_; have GE172 := n4_; clear n0_ n1_ n2_ n3_ n4_; clear hb hbox hg; have hcz14_0 : w13.cell? ⟨gb172, 0, none⟩ = some (.int .u8 0) := (blk_cell BK172.out 0).trans rfl; have hcz14_1 : w13.cell? ⟨gb172, 1, none⟩ = some (.int .u8 0) := (blk_cell BK172.out 1).trans rfl; have hcz14_2 : w13.cell? ⟨gb172, 2, none⟩ = some (.int .u8 0) := (blk_cell BK172.out 2).trans rfl; have hcz14_3 : w13.cell? ⟨gb172, 3, none⟩ = some (.int .i16 0) := (blk_cell BK172.out 3).trans rfl; have hcz14_4 : w13.cell? ⟨gb172, 4, none⟩ = some (.int .i32 0) := (blk_cell BK172.out 4).trans rfl; have hfz14_0 := blk_frozen BK172.out 0; have hfz14_1 := blk_frozen BK172.out 1; have hfz14_2 := blk_frozen BK172.out 2; have hfz14_3 := blk_frozen BK172.out 3; have hfz14_4 := blk_frozen BK172.out 4; obtain ⟨Ao15, co15, eo15⟩ := Kd.R_slice HO_5.out; subst eo15; have p173 : 0 ≤ (x6_2 : Int) := of_decide_eq_true (by first | (with_reducible assumption) | assumption); have q173 : x6_2 < (t167.length : Int) := of_decide_eq_true (by first | (with_reducible assumption) | assumption); obtain ⟨ad173, e173, hx173_0⟩ := Kd.at_bool (Kd.R_reads' HO_5.out).2.2 x6_2 p173 q173; (try rw [← Nbq11.out] at hx173_0); cases e173; have hn173_0 : ad173.block ≠ gb172 := Kd.own_blk (Kd.R_ne HO_5.out BK172.out (by decide)); have hn173_1 : ad173.block ≠ gb172 := Kd.own_blk (Kd.R_ne HO_5.out BK172.out (by decide)); have hn173_2 : ad173.block ≠ gb172 := Kd.own_blk (Kd.R_ne HO_5.out BK172.out (by decide)); have hn173_3 : ad173.block ≠ gb172 := Kd.own_blk (Kd.R_ne HO_5.out BK172.out (by decide)); have hn173_4 : ad173.block ≠ gb172 := Kd.own_blk (Kd.R_ne HO_5.out BK172.out (by decide)); replace hx173_0 := (cell_far (p := ⟨gb172, 0, none⟩) (by first | (rw [add_block]; exact hn173_0) | (show (Addr.add _ _).block ≠ _; rw [add_block]; exact hn173_0) | exact hn173_0) (.int .u8 ((rd_T24 l0 x6_2).f0))).trans hx173_0; replace hx173_0 := (cell_far (p := ⟨gb172, 1, none⟩) (by first | (rw [add_block]; exact hn173_1) | (show (Addr.add _ _).block ≠ _; rw [add_block]; exact hn173_1) | exact hn173_1) (.int .u8 ((rd_T24 l0 x6_2).f1))).trans hx173_0; replace hx173_0 := (cell_far (p := ⟨gb172, 2, none⟩) (by first | (rw [add_block]; exact hn173_2) | (show (Addr.add _ _).block ≠ _; rw [add_block]; exact hn173_2) | exact hn173_2) (.int .u8 ((rd_T24 l0 x6_2).f2))).trans hx173_0; replace hx173_0 := (cell_far (p := ⟨gb172, 3, none⟩) (by first | (rw [add_block]; exact hn173_3) | (show (Addr.add _ _).block ≠ _; rw [add_block]; exact hn173_3) | exact hn173_3) (.int .i16 ((rd_T24 l0 x6_2).f3))).trans hx173_0; replace hx173_0 := (cell_far (p := ⟨gb172, 4, none⟩) (by first | (rw [add_block]; exact hn173_4) | (show (Addr.add _ _).block ≠ _; rw [add_block]; exact hn173_4) | exact hn173_4) (.int .i32 ((rd_T24 l0 x6_2).f4))).trans hx173_0; clear hn173_0; clear hn173_1; clear hn173_2; clear hn173_3; clear hn173_4; replace p173 := eq_true p173; replace q173 := eq_true q173))
                    go_roundg k2
                    case measure => have := HJ2.out; have := HK2.out; omega
                    case rel => exact ⟨(wrap64 (x6_2 + 1)), (by first | rfl | (simp; done) | (simp [*]; done)), H', ⟨by have := HJ2.out; have := HK2.out; omega⟩, ⟨by (with_reducible repeat (first | apply Kd.R_alloc | apply Kd.R_drewN | apply Kd.R_drew)); exact Kd.R_mono (Kd.R_far (p := ⟨gb172, 4, none⟩) (Kd.R_far (p := ⟨gb172, 3, none⟩) (Kd.R_far (p := ⟨gb172, 2, none⟩) (Kd.R_far (p := ⟨gb172, 1, none⟩) (Kd.R_far (p := ⟨gb172, 0, none⟩) (Kd.R_types HO_5.out BK172.out (by decide)) (fun _ hk => hk.2) (.int .u8 ((rd_T24 l0 x6_2).f0))) (fun _ hk => hk.2) (.int .u8 ((rd_T24 l0 x6_2).f1))) (fun _ hk => hk.2) (.int .u8 ((rd_T24 l0 x6_2).f2))) (fun _ hk => hk.2) (.int .i16 ((rd_T24 l0 x6_2).f3))) (fun _ hk => hk.2) (.int .i32 ((rd_T24 l0 x6_2).f4))) (fun _ hk => trivial)⟩, ⟨by repeat (first | (with_reducible first | exact HB.out | apply below_alloc | apply pw_below_drewN | apply below_drew1 | refine below_set ?_ GE172.out) | exact HB.out)⟩⟩
                  · replace c12 := Bool.eq_false_iff.mpr c12
                    subst c12
                    have H1 : ((halberdref03_Right.f k2 ((rd_T24 l0 x6_2).f0) ((rd_T24 l0 x6_2).f1) ((rd_T24 l0 x6_2).f2) ((rd_T24 l0 x6_2).f3) ((rd_T24 l0 x6_2).f4)).bind fun t174 => (if t174 = true then (if ((rd_T24 l0 x6_2).f0) = 24 then (if (wrap64 (x6_2 + 1)) = (l0.length : Int) then (halberdref03_Check.j2 k2 l0 a1 t167 x6_2 true ((rd_T24 l0 x6_2).f0) ((rd_T24 l0 x6_2).f1) ((rd_T24 l0 x6_2).f2) ((rd_T24 l0 x6_2).f3) ((rd_T24 l0 x6_2).f4)) else (if 0 ≤ (wrap64 (x6_2 + 1)) then (if (wrap64 (x6_2 + 1)) < (t167.length : Int) then (halberdref03_Check.j2 k2 l0 a1 t167 x6_2 (!(rdOf false t167 (wrap64 (x6_2 + 1)))) ((rd_T24 l0 x6_2).f0) ((rd_T24 l0 x6_2).f1) ((rd_T24 l0 x6_2).f2) ((rd_T24 l0 x6_2).f3) ((rd_T24 l0 x6_2).f4)) else (none)) else (none))) else (halberdref03_Check.j3 k2 l0 a1 t167 x6_2 ((rd_T24 l0 x6_2).f0) ((rd_T24 l0 x6_2).f1) ((rd_T24 l0 x6_2).f2) ((rd_T24 l0 x6_2).f3) ((rd_T24 l0 x6_2).f4))) else (some false))) = some r := by rw [if_neg (show ¬ (false = true) by decide)] at H; exact H
                    clear H
                    have H := H1
                    clear H1
                    replace H := Option.bind_eq_some_iff.mp H
                    obtain ⟨t174, A160, H⟩ := H
                    replace H : (if t174 = true then (if ((rd_T24 l0 x6_2).f0) = 24 then (if (wrap64 (x6_2 + 1)) = (l0.length : Int) then (halberdref03_Check.j2 k2 l0 a1 t167 x6_2 true ((rd_T24 l0 x6_2).f0) ((rd_T24 l0 x6_2).f1) ((rd_T24 l0 x6_2).f2) ((rd_T24 l0 x6_2).f3) ((rd_T24 l0 x6_2).f4)) else (if 0 ≤ (wrap64 (x6_2 + 1)) then (if (wrap64 (x6_2 + 1)) < (t167.length : Int) then (halberdref03_Check.j2 k2 l0 a1 t167 x6_2 (!(rdOf false t167 (wrap64 (x6_2 + 1)))) ((rd_T24 l0 x6_2).f0) ((rd_T24 l0 x6_2).f1) ((rd_T24 l0 x6_2).f2) ((rd_T24 l0 x6_2).f3) ((rd_T24 l0 x6_2).f4)) else (none)) else (none))) else (halberdref03_Check.j3 k2 l0 a1 t167 x6_2 ((rd_T24 l0 x6_2).f0) ((rd_T24 l0 x6_2).f1) ((rd_T24 l0 x6_2).f2) ((rd_T24 l0 x6_2).f3) ((rd_T24 l0 x6_2).f4))) else (some false)) = some r := H
                    have A16 := Aside0.mk A160
                    clear A160
                    by_cases c17 : t174 = true
                    · subst c17
                      have H1 : (if ((rd_T24 l0 x6_2).f0) = 24 then (if (wrap64 (x6_2 + 1)) = (l0.length : Int) then (halberdref03_Check.j2 k2 l0 a1 t167 x6_2 true ((rd_T24 l0 x6_2).f0) ((rd_T24 l0 x6_2).f1) ((rd_T24 l0 x6_2).f2) ((rd_T24 l0 x6_2).f3) ((rd_T24 l0 x6_2).f4)) else (if 0 ≤ (wrap64 (x6_2 + 1)) then (if (wrap64 (x6_2 + 1)) < (t167.length : Int) then (halberdref03_Check.j2 k2 l0 a1 t167 x6_2 (!(rdOf false t167 (wrap64 (x6_2 + 1)))) ((rd_T24 l0 x6_2).f0) ((rd_T24 l0 x6_2).f1) ((rd_T24 l0 x6_2).f2) ((rd_T24 l0 x6_2).f3) ((rd_T24 l0 x6_2).f4)) else (none)) else (none))) else (halberdref03_Check.j3 k2 l0 a1 t167 x6_2 ((rd_T24 l0 x6_2).f0) ((rd_T24 l0 x6_2).f1) ((rd_T24 l0 x6_2).f2) ((rd_T24 l0 x6_2).f3) ((rd_T24 l0 x6_2).f4))) = some r := by rw [if_pos rfl] at H; exact H
                      clear H
                      have H := H1
                      clear H1
                      have HC18 := Aside0.mk H
                      clear H
                      have p171 : 0 ≤ (x6_2 : Int) := of_decide_eq_true (by first | (with_reducible assumption) | assumption)
                      have q171 : x6_2 < (l0.length : Int) := of_decide_eq_true (by first | (with_reducible assumption) | assumption)
                      obtain ⟨ad171, e171, hx171_0, hx171_1, hx171_2, hx171_3, hx171_4⟩ := at_T24 HR0.out x6_2 p171 q171
                      cases e171
                      replace hx171_0 := (HB.out.cell (World.block_lt_of_cell? w _ hx171_0)).trans hx171_0
                      replace hx171_1 := (HB.out.cell (World.block_lt_of_cell? w _ hx171_1)).trans hx171_1
                      replace hx171_2 := (HB.out.cell (World.block_lt_of_cell? w _ hx171_2)).trans hx171_2
                      replace hx171_3 := (HB.out.cell (World.block_lt_of_cell? w _ hx171_3)).trans hx171_3
                      replace hx171_4 := (HB.out.cell (World.block_lt_of_cell? w _ hx171_4)).trans hx171_4
                      replace p171 := eq_true p171
                      replace q171 := eq_true q171
                      go_upto_if 39 with (first | ((with_reducible refine gate_dst (N := 7) rfl ?_); (try (refine gate_guard (by rfl) ?_; dsimp only)); refine box_event ?hg (N := 7) ?hd (cs := #[.int .u8 0, .int .u8 0, .int .u8 0, .int .i16 0, .int .i32 0]) (t := 24) ?hr ?_; (case hd => rfl); (case hg => rfl); (case hr => first | (go_simp; done) | (go_simp; rfl)); intro gb172 hg w19 hbox hb; have n0_ := Aside0.mk (Kd.R_below (by (with_reducible repeat (first | apply Kd.R_alloc | apply Kd.R_drewN | apply Kd.R_drew)); exact HO_5.out) hb); have n1_ := Aside0.mk (below_step (by repeat (first | (with_reducible first | exact HB.out | apply below_alloc | apply pw_below_drewN | apply below_drew1) | exact HB.out)) hb); have n2_ := Aside0.mk (hbox); have n3_ := Aside0.mk ((by rw [hg]; exact (below_size (by repeat (first | (with_reducible first | exact HB.out | apply below_alloc | apply pw_below_drewN | apply below_drew1) | exact HB.out))) : w.heap.size ≤ gb172)); have n4_ := Aside0.mk ((by rw [hg]; exact (below_size (by repeat (first | (with_reducible first | exact HB.out | apply below_alloc | apply pw_below_drewN | apply below_drew1) | exact HB.out))) : w.heap.size ≤ gb172)); clear HO_5; clear HB; have HO_5 := n0_; have HB := n1_; have BK172 := n2_; have GW172 := n3_; have GE172 := n4_; clear n0_ n1_ n2_ n3_ n4_; clear hb hbox hg; have hcz20_0 : w19.cell? ⟨gb172, 0, none⟩ = some (.int .u8 0) := (blk_cell BK172.out 0).trans rfl; have hcz20_1 : w19.cell? ⟨gb172, 1, none⟩ = some (.int .u8 0) := (blk_cell BK172.out 1).trans rfl; have hcz20_2 : w19.cell? ⟨gb172, 2, none⟩ = some (.int .u8 0) := (blk_cell BK172.out 2).trans rfl; have hcz20_3 : w19.cell? ⟨gb172, 3, none⟩ = some (.int .i16 0) := (blk_cell BK172.out 3).trans rfl; have hcz20_4 : w19.cell? ⟨gb172, 4, none⟩ = some (.int .i32 0) := (blk_cell BK172.out 4).trans rfl; have hfz20_0 := blk_frozen BK172.out 0; have hfz20_1 := blk_frozen BK172.out 1; have hfz20_2 := blk_frozen BK172.out 2; have hfz20_3 := blk_frozen BK172.out 3; have hfz20_4 := blk_frozen BK172.out 4; obtain ⟨Ao21, co21, eo21⟩ := Kd.R_slice HO_5.out; subst eo21; have p173 : 0 ≤ (x6_2 : Int) := of_decide_eq_true (by first | (with_reducible assumption) | assumption); have q173 : x6_2 < (t167.length : Int) := of_decide_eq_true (by first | (with_reducible assumption) | assumption); obtain ⟨ad173, e173, hx173_0⟩ := Kd.at_bool (Kd.R_reads' HO_5.out).2.2 x6_2 p173 q173; (try rw [← Nbq11.out] at hx173_0); cases e173; have hn173_0 : ad173.block ≠ gb172 := Kd.own_blk (Kd.R_ne HO_5.out BK172.out (by decide)); have hn173_1 : ad173.block ≠ gb172 := Kd.own_blk (Kd.R_ne HO_5.out BK172.out (by decide)); have hn173_2 : ad173.block ≠ gb172 := Kd.own_blk (Kd.R_ne HO_5.out BK172.out (by decide)); have hn173_3 : ad173.block ≠ gb172 := Kd.own_blk (Kd.R_ne HO_5.out BK172.out (by decide)); have hn173_4 : ad173.block ≠ gb172 := Kd.own_blk (Kd.R_ne HO_5.out BK172.out (by decide)); replace hx173_0 := (cell_far (p := ⟨gb172, 0, none⟩) (by first | (rw [add_block]; exact hn173_0) | (show (Addr.add _ _).block ≠ _; rw [add_block]; exact hn173_0) | exact hn173_0) (.int .u8 ((rd_T24 l0 x6_2).f0))).trans hx173_0; replace hx173_0 := (cell_far (p := ⟨gb172, 1, none⟩) (by first | (rw [add_block]; exact hn173_1) | (show (Addr.add _ _).block ≠ _; rw [add_block]; exact hn173_1) | exact hn173_1) (.int .u8 ((rd_T24 l0 x6_2).f1))).trans hx173_0; replace hx173_0 := (cell_far (p := ⟨gb172, 2, none⟩) (by first | (rw [add_block]; exact hn173_2) | (show (Addr.add _ _).block ≠ _; rw [add_block]; exact hn173_2) | exact hn173_2) (.int .u8 ((rd_T24 l0 x6_2).f2))).trans hx173_0; replace hx173_0 := (cell_far (p := ⟨gb172, 3, none⟩) (by first | (rw [add_block]; exact hn173_3) | (show (Addr.add _ _).block ≠ _; rw [add_block]; exact hn173_3) | exact hn173_3) (.int .i16 ((rd_T24 l0 x6_2).f3))).trans hx173_0; replace hx173_0 := (cell_far (p := ⟨gb172, 4, none⟩) (by first | (rw [add_block]; exact hn173_4) | (show (Addr.add _ _).block ≠ _; rw [add_block]; exact hn173_4) | exact hn173_4) (.int .i32 ((rd_T24 l0 x6_2).f4))).trans hx173_0; clear hn173_0; clear hn173_1; clear hn173_2; clear hn173_3; clear hn173_4; replace p173 := eq_true p173; replace q173 := eq_true q173) | ((with_reducible refine gate_callee (f := 11) rfl ?_); refine goesL_ (some 35) rfl rfl Try.func11 (by kernel_rfl) rfl #[.agg #[.int .u8 ((rd_T24 l0 x6_2).f0), .int .u8 ((rd_T24 l0 x6_2).f1), .int .u8 ((rd_T24 l0 x6_2).f2), .int .i16 ((rd_T24 l0 x6_2).f3), .int .i32 ((rd_T24 l0 x6_2).f4)]] rfl (by (try simp only [List.map_toArray, List.map_cons, List.map_nil]); first | done | rfl | (simp only [List.length_drop, List.length_take]; rfl)) ?_; (with_reducible refine (halberdref03_Right.calls k2 ((rd_T24 l0 x6_2).f0) ((rd_T24 l0 x6_2).f1) ((rd_T24 l0 x6_2).f2) ((rd_T24 l0 x6_2).f3) ((rd_T24 l0 x6_2).f4) true _ A16.out).mono ?_); rintro e w22 ⟨rfl, hb⟩; refine ⟨_, rfl, ?_⟩; have n0_ := Aside0.mk (Kd.R_below (by (with_reducible repeat (first | apply Kd.R_alloc | apply Kd.R_drewN | apply Kd.R_drew)); exact (Kd.R_mono (Kd.R_far (p := ⟨gb172, 4, none⟩) (Kd.R_far (p := ⟨gb172, 3, none⟩) (Kd.R_far (p := ⟨gb172, 2, none⟩) (Kd.R_far (p := ⟨gb172, 1, none⟩) (Kd.R_far (p := ⟨gb172, 0, none⟩) (Kd.R_types HO_5.out BK172.out (by decide)) (fun _ hk => hk.2) (.int .u8 ((rd_T24 l0 x6_2).f0))) (fun _ hk => hk.2) (.int .u8 ((rd_T24 l0 x6_2).f1))) (fun _ hk => hk.2) (.int .u8 ((rd_T24 l0 x6_2).f2))) (fun _ hk => hk.2) (.int .i16 ((rd_T24 l0 x6_2).f3))) (fun _ hk => hk.2) (.int .i32 ((rd_T24 l0 x6_2).f4))) (fun _ h_ => h_.1))) hb); have n1_ := Aside0.mk (blk_below (g := gb172) (o := .cells #[.int .u8 ((rd_T24 l0 x6_2).f0), .int .u8 ((rd_T24 l0 x6_2).f1), .int .u8 ((rd_T24 l0 x6_2).f2), .int .i16 ((rd_T24 l0 x6_2).f3), .int .i32 ((rd_T24 l0 x6_2).f4)] 24 (0, 0)) (by (with_reducible repeat (first | refine blk_drewN ?_ _ | refine blk_drew ?_ | refine blk_alloc ?_ _)); refine blk_put (cs := #[.int .u8 ((rd_T24 l0 x6_2).f0), .int .u8 ((rd_T24 l0 x6_2).f1), .int .u8 ((rd_T24 l0 x6_2).f2), .int .i16 ((rd_T24 l0 x6_2).f3), .int .i32 0]) ?_ 4 _ rfl; (with_reducible repeat (first | refine blk_drewN ?_ _ | refine blk_drew ?_ | refine blk_alloc ?_ _)); refine blk_put (cs := #[.int .u8 ((rd_T24 l0 x6_2).f0), .int .u8 ((rd_T24 l0 x6_2).f1), .int .u8 ((rd_T24 l0 x6_2).f2), .int .i16 0, .int .i32 0]) ?_ 3 _ rfl; (with_reducible repeat (first | refine blk_drewN ?_ _ | refine blk_drew ?_ | refine blk_alloc ?_ _)); refine blk_put (cs := #[.int .u8 ((rd_T24 l0 x6_2).f0), .int .u8 ((rd_T24 l0 x6_2).f1), .int .u8 0, .int .i16 0, .int .i32 0]) ?_ 2 _ rfl; (with_reducible repeat (first | refine blk_drewN ?_ _ | refine blk_drew ?_ | refine blk_alloc ?_ _)); refine blk_put (cs := #[.int .u8 ((rd_T24 l0 x6_2).f0), .int .u8 0, .int .u8 0, .int .i16 0, .int .i32 0]) ?_ 1 _ rfl; (with_reducible repeat (first | refine blk_drewN ?_ _ | refine blk_drew ?_ | refine blk_alloc ?_ _)); refine blk_put (cs := #[.int .u8 0, .int .u8 0, .int .u8 0, .int .i16 0, .int .i32 0]) ?_ 0 _ rfl; (with_reducible repeat (first | refine blk_drewN ?_ _ | refine blk_drew ?_ | refine blk_alloc ?_ _)); exact BK172.out) hb); have n2_ := Aside0.mk (below_step (by repeat (first | (with_reducible first | exact HB.out | apply below_alloc | apply pw_below_drewN | apply below_drew1 | refine below_set ?_ GE172.out) | exact HB.out)) hb); clear HO_5; clear BK172; clear HB; have HO_5 := n0_; have BK172 := n1_; have HB := n2_; clear n0_ n1_ n2_; (try clear hb); (try clear hb2); (try clear hk); (try clear hi); have hcz23_0 : w22.cell? ⟨gb172, 0, none⟩ = some (.int .u8 ((rd_T24 l0 x6_2).f0)) := (blk_cell BK172.out 0).trans rfl; have hcz23_1 : w22.cell? ⟨gb172, 1, none⟩ = some (.int .u8 ((rd_T24 l0 x6_2).f1)) := (blk_cell BK172.out 1).trans rfl; have hcz23_2 : w22.cell? ⟨gb172, 2, none⟩ = some (.int .u8 ((rd_T24 l0 x6_2).f2)) := (blk_cell BK172.out 2).trans rfl; have hcz23_3 : w22.cell? ⟨gb172, 3, none⟩ = some (.int .i16 ((rd_T24 l0 x6_2).f3)) := (blk_cell BK172.out 3).trans rfl; have hcz23_4 : w22.cell? ⟨gb172, 4, none⟩ = some (.int .i32 ((rd_T24 l0 x6_2).f4)) := (blk_cell BK172.out 4).trans rfl; have hfz23_0 := blk_frozen BK172.out 0; have hfz23_1 := blk_frozen BK172.out 1; have hfz23_2 := blk_frozen BK172.out 2; have hfz23_3 := blk_frozen BK172.out 3; have hfz23_4 := blk_frozen BK172.out 4))
                      (try simp only [Act.put, List.setIfInBounds_toArray, List.set_cons_zero, List.set_cons_succ])
                      go_cut [] (fun wc => ∃ (kq : Nat), Aside0 (halberdref03_Check.j3 kq l0 a1 t167 x6_2 ((rd_T24 l0 x6_2).f0) ((rd_T24 l0 x6_2).f1) ((rd_T24 l0 x6_2).f2) ((rd_T24 l0 x6_2).f3) ((rd_T24 l0 x6_2).f4) = some r) ∧ Aside0 (kq ≤ k2) ∧ Aside0 (Kd.R Kd.bool 4 wc w.heap.size (fun _ => True) (.slice (some ad173) t167.length co21) t167) ∧ Aside0 (wc.heap[gb172]? = some (.cells #[.int .u8 ((rd_T24 l0 x6_2).f0), .int .u8 ((rd_T24 l0 x6_2).f1), .int .u8 ((rd_T24 l0 x6_2).f2), .int .i16 ((rd_T24 l0 x6_2).f3), .int .i32 ((rd_T24 l0 x6_2).f4)] 24 (0, 0))) ∧ Aside0 (Below w.heap.size w wc))
                      case first =>
                        have H := HC18.out
                        clear HC18
                        by_cases c24 : ((rd_T24 l0 x6_2).f0) = 24
                        · rw [if_pos c24] at H
                          have c24b0 : (((rd_T24 l0 x6_2).f0) == 24) = true := beq_iff_eq.mpr c24
                          have c24b1 : (((rd_T24 l0 x6_2).f0) != 24) = false := bne_eq_false_iff_eq.mpr c24
                          clear c24
                          (first | rw [c24b0] | (simp only [i64_w, i32_w]; rw [c24b0]) | skip)
                          have HC25 := Aside0.mk H
                          clear H
                          go_upto_region 12 with (fail)
                          go_cut [52] (fun v52 wc => ∃ (kq : Nat) (x52_24 : Bool), v52 = .bool x52_24 ∧ Aside0 (halberdref03_Check.j2 kq l0 a1 t167 x6_2 x52_24 ((rd_T24 l0 x6_2).f0) ((rd_T24 l0 x6_2).f1) ((rd_T24 l0 x6_2).f2) ((rd_T24 l0 x6_2).f3) ((rd_T24 l0 x6_2).f4) = some r) ∧ Aside0 (kq ≤ k2) ∧ Aside0 (Kd.R Kd.bool 4 wc w.heap.size (fun _ => True) (.slice (some ad173) t167.length co21) t167) ∧ Aside0 (wc.heap[gb172]? = some (.cells #[.int .u8 ((rd_T24 l0 x6_2).f0), .int .u8 ((rd_T24 l0 x6_2).f1), .int .u8 ((rd_T24 l0 x6_2).f2), .int .i16 ((rd_T24 l0 x6_2).f3), .int .i32 ((rd_T24 l0 x6_2).f4)] 24 (0, 0))) ∧ Aside0 (Below w.heap.size w wc))
                          case first =>
                            have H := HC25.out
                            clear HC25
                            by_cases c26 : (wrap64 (x6_2 + 1)) = (l0.length : Int)
                            · rw [if_pos c26] at H
                              have c26b0 : ((wrap64 (x6_2 + 1)) == (l0.length : Int)) = true := beq_iff_eq.mpr c26
                              have c26b1 : ((wrap64 (x6_2 + 1)) != (l0.length : Int)) = false := bne_eq_false_iff_eq.mpr c26
                              clear c26
                              (first | rw [c26b0] | (simp only [i64_w, i32_w]; rw [c26b0]) | skip)
                              have H' := Aside0.mk H
                              clear H
                              go_wp2
                              go_meet
                              case rel => exact ⟨_, (true), (by first | rfl | (simp; done) | (simp [*]; done)), H', ⟨by have := HJ2.out; have := HK2.out; first | omega | exact Nat.le_refl _⟩, ⟨by (with_reducible repeat (first | apply Kd.R_alloc | apply Kd.R_drewN | apply Kd.R_drew)); exact HO_5.out⟩, ⟨by (with_reducible repeat (first | refine blk_drewN ?_ _ | refine blk_drew ?_ | refine blk_alloc ?_ _)); exact BK172.out⟩, ⟨by repeat (first | (with_reducible first | exact HB.out | apply below_alloc | apply pw_below_drewN | apply below_drew1 | refine below_set ?_ GE172.out) | exact HB.out)⟩⟩
                            · rw [if_neg c26] at H
                              have c26b0 : ((wrap64 (x6_2 + 1)) == (l0.length : Int)) = false := beq_eq_false_iff_ne.mpr c26
                              have c26b1 : ((wrap64 (x6_2 + 1)) != (l0.length : Int)) = true := bne_iff_ne.mpr c26
                              (first | rw [c26b0] | (simp only [i64_w, i32_w]; rw [c26b0]) | skip)
                              obtain ⟨ji27, hji27⟩ : ∃ j_ : Int, (wrap64 (x6_2 + 1)) = j_ := ⟨_, rfl⟩
                              replace H : (if 0 ≤ (ji27) then (if (ji27) < (t167.length : Int) then (halberdref03_Check.j2 k2 l0 a1 t167 x6_2 (!(rdOf false t167 (ji27))) ((rd_T24 l0 x6_2).f0) ((rd_T24 l0 x6_2).f1) ((rd_T24 l0 x6_2).f2) ((rd_T24 l0 x6_2).f3) ((rd_T24 l0 x6_2).f4)) else (none)) else (none)) = some r := by first | (rw [hji27] at H; exact H) | (simp only [hji27] at H ⊢; exact H)
                              (try rw [hji27] at c26b0)
                              (try rw [hji27] at c26b1)
                              have hji27w : (IntKind.i64.wrap (x6_2 + 1)) = ji27 := (i64_w _).trans hji27
                              by_cases c28 : 0 ≤ (ji27)
                              · rw [if_pos c28] at H
                                have c28b0 : decide (0 ≤ (ji27)) = true := decide_eq_true c28
                                clear c28
                                by_cases c29 : (ji27) < (t167.length : Int)
                                · rw [if_pos c29] at H
                                  have c29b0 : decide ((ji27) < (t167.length : Int)) = true := decide_eq_true c29
                                  clear c29
                                  have H' := Aside0.mk H
                                  clear H
                                  have p175 : 0 ≤ ((ji27) : Int) := of_decide_eq_true (by first | (with_reducible assumption) | assumption)
                                  have q175 : (ji27) < (t167.length : Int) := of_decide_eq_true (by first | (with_reducible assumption) | assumption)
                                  obtain ⟨ad175, e175, hx175_0⟩ := Kd.at_bool (Kd.R_reads' HO_5.out).2.2 (ji27) p175 q175
                                  (try rw [← Nbq11.out] at hx175_0)
                                  obtain rfl : ad173 = ad175 := (by injection e175)
                                  replace p175 := eq_true p175
                                  replace q175 := eq_true q175
                                  go_wp2
                                  go_meet
                                  case rel => exact ⟨_, (!(rdOf false t167 (ji27))), (by first | rfl | (simp; done) | (simp only [← hji27] <;> (first | rfl | simp)) | (simp [*]; done)), H', ⟨by have := HJ2.out; have := HK2.out; first | omega | exact Nat.le_refl _⟩, ⟨by (with_reducible repeat (first | apply Kd.R_alloc | apply Kd.R_drewN | apply Kd.R_drew)); exact HO_5.out⟩, ⟨by (with_reducible repeat (first | refine blk_drewN ?_ _ | refine blk_drew ?_ | refine blk_alloc ?_ _)); exact BK172.out⟩, ⟨by repeat (first | (with_reducible first | exact HB.out | apply below_alloc | apply pw_below_drewN | apply below_drew1 | refine below_set ?_ GE172.out) | exact HB.out)⟩⟩
                                · rw [if_neg c29] at H
                                  exact absurd H (by simp)
                              · rw [if_neg c28] at H
                                exact absurd H (by simp)
                          case rest =>
                            clear HC25
                            try clear c1
                            try clear p1
                            try clear q1
                            try clear hx1
                            try clear c2
                            try clear p2
                            try clear c4
                            try clear c4b0
                            try clear c4b1
                            try clear c5
                            try clear p6
                            try clear c8
                            try clear c8b0
                            try clear c9
                            try clear c9b0
                            try clear c10
                            try clear c10b0
                            try clear c11
                            try clear q11
                            try clear c12
                            try clear c16
                            try clear c17
                            try clear p17
                            try clear q17
                            try clear hx17
                            try clear c19
                            try clear c24
                            try clear c24b0
                            try clear c24b1
                            try clear c26
                            try clear c26b0
                            try clear c26b1
                            try clear c28
                            try clear c28b0
                            try clear c29
                            try clear c29b0
                            try clear hcz14_0
                            try clear hcz14_1
                            try clear hcz14_2
                            try clear hcz14_3
                            try clear hcz14_4
                            try clear hcz20_0
                            try clear hcz20_1
                            try clear hcz20_2
                            try clear hcz20_3
                            try clear hcz20_4
                            try clear hcz23_0
                            try clear hcz23_1
                            try clear hcz23_2
                            try clear hcz23_3
                            try clear hcz23_4
                            try clear hfz14_0
                            try clear hfz14_1
                            try clear hfz14_2
                            try clear hfz14_3
                            try clear hfz14_4
                            try clear hfz20_0
                            try clear hfz20_1
                            try clear hfz20_2
                            try clear hfz20_3
                            try clear hfz20_4
                            try clear hfz23_0
                            try clear hfz23_1
                            try clear hfz23_2
                            try clear hfz23_3
                            try clear hfz23_4
                            try clear hx171_0
                            try clear hx171_1
                            try clear hx171_2
                            try clear hx171_3
                            try clear hx171_4
                            try clear hx173_0
                            try clear hx175_0
                            try clear p171
                            try clear p173
                            try clear p175
                            try clear p2
                            try clear q171
                            try clear q173
                            try clear q175
                            obtain ⟨kq, x52_24, rfl, HA, HJ24, HO_5, BK172, HB⟩ := hcut
                            cases kq with
                            | zero => exact absurd HA.out (by simp [halberdref03_Check.j2])
                            | succ kj24 =>
                              have H := HA.out
                              clear HA
                              simp only [halberdref03_Check.j2] at H
                              by_cases c30 : x52_24 = true
                              · subst c30
                                have H1 : (some false) = some r := by rw [if_pos rfl] at H; exact H
                                clear H
                                have H := H1
                                clear H1
                                obtain rfl := Option.some.inj H
                                go_wp2
                                go_ret
                                exact ⟨by first | rfl | (simp [errW_none, errW_some] <;> rfl) | (simp [*, errW_none, errW_some] <;> rfl), by repeat (first | (with_reducible first | exact HB.out | apply below_alloc | apply pw_below_drewN | apply below_drew1 | refine below_set ?_ GE172.out) | exact HB.out)⟩
                              · replace c30 := Bool.eq_false_iff.mpr c30
                                subst c30
                                have H1 : (if 0 ≤ (wrap64 (x6_2 + 1)) then (if (wrap64 (x6_2 + 1)) < (l0.length : Int) then ((halberdref02_Wide.f kj24 ((rd_T24 l0 x6_2).f0) ((rd_T24 l0 x6_2).f1) ((rd_T24 l0 x6_2).f2) ((rd_T24 l0 x6_2).f3) ((rd_T24 l0 x6_2).f4) ((rd_T24 l0 (wrap64 (x6_2 + 1))).f0) ((rd_T24 l0 (wrap64 (x6_2 + 1))).f1) ((rd_T24 l0 (wrap64 (x6_2 + 1))).f2) ((rd_T24 l0 (wrap64 (x6_2 + 1))).f3) ((rd_T24 l0 (wrap64 (x6_2 + 1))).f4)).bind fun t177 => (if ((rd_T24 l0 x6_2).f2) = 1 then (if a1 < 1 then (some false) else (if t177 ≥ (IntKind.u64.wrap (a1)) then (some false) else (halberdref03_Check.j3 kj24 l0 a1 t167 x6_2 ((rd_T24 l0 x6_2).f0) ((rd_T24 l0 x6_2).f1) ((rd_T24 l0 x6_2).f2) ((rd_T24 l0 x6_2).f3) ((rd_T24 l0 x6_2).f4)))) else (halberdref03_Check.j3 kj24 l0 a1 t167 x6_2 ((rd_T24 l0 x6_2).f0) ((rd_T24 l0 x6_2).f1) ((rd_T24 l0 x6_2).f2) ((rd_T24 l0 x6_2).f3) ((rd_T24 l0 x6_2).f4)))) else (none)) else (none)) = some r := by rw [if_neg (show ¬ (false = true) by decide)] at H; exact H
                                clear H
                                have H := H1
                                clear H1
                                obtain ⟨ji31, hji31⟩ : ∃ j_ : Int, (wrap64 (x6_2 + 1)) = j_ := ⟨_, rfl⟩
                                replace H : (if 0 ≤ (ji31) then (if (ji31) < (l0.length : Int) then ((halberdref02_Wide.f kj24 ((rd_T24 l0 x6_2).f0) ((rd_T24 l0 x6_2).f1) ((rd_T24 l0 x6_2).f2) ((rd_T24 l0 x6_2).f3) ((rd_T24 l0 x6_2).f4) ((rd_T24 l0 (ji31)).f0) ((rd_T24 l0 (ji31)).f1) ((rd_T24 l0 (ji31)).f2) ((rd_T24 l0 (ji31)).f3) ((rd_T24 l0 (ji31)).f4)).bind fun t177 => (if ((rd_T24 l0 x6_2).f2) = 1 then (if a1 < 1 then (some false) else (if t177 ≥ (IntKind.u64.wrap (a1)) then (some false) else (halberdref03_Check.j3 kj24 l0 a1 t167 x6_2 ((rd_T24 l0 x6_2).f0) ((rd_T24 l0 x6_2).f1) ((rd_T24 l0 x6_2).f2) ((rd_T24 l0 x6_2).f3) ((rd_T24 l0 x6_2).f4)))) else (halberdref03_Check.j3 kj24 l0 a1 t167 x6_2 ((rd_T24 l0 x6_2).f0) ((rd_T24 l0 x6_2).f1) ((rd_T24 l0 x6_2).f2) ((rd_T24 l0 x6_2).f3) ((rd_T24 l0 x6_2).f4)))) else (none)) else (none)) = some r := by first | (rw [hji31] at H; exact H) | (simp only [hji31] at H ⊢; exact H)
                                have hji31w : (IntKind.i64.wrap (x6_2 + 1)) = ji31 := (i64_w _).trans hji31
                                by_cases c32 : 0 ≤ (ji31)
                                · rw [if_pos c32] at H
                                  have c32b0 : decide (0 ≤ (ji31)) = true := decide_eq_true c32
                                  clear c32
                                  by_cases c33 : (ji31) < (l0.length : Int)
                                  · rw [if_pos c33] at H
                                    have c33b0 : decide ((ji31) < (l0.length : Int)) = true := decide_eq_true c33
                                    clear c33
                                    replace H := Option.bind_eq_some_iff.mp H
                                    obtain ⟨t177, A340, H⟩ := H
                                    replace H : (if ((rd_T24 l0 x6_2).f2) = 1 then (if a1 < 1 then (some false) else (if t177 ≥ (IntKind.u64.wrap (a1)) then (some false) else (halberdref03_Check.j3 kj24 l0 a1 t167 x6_2 ((rd_T24 l0 x6_2).f0) ((rd_T24 l0 x6_2).f1) ((rd_T24 l0 x6_2).f2) ((rd_T24 l0 x6_2).f3) ((rd_T24 l0 x6_2).f4)))) else (halberdref03_Check.j3 kj24 l0 a1 t167 x6_2 ((rd_T24 l0 x6_2).f0) ((rd_T24 l0 x6_2).f1) ((rd_T24 l0 x6_2).f2) ((rd_T24 l0 x6_2).f3) ((rd_T24 l0 x6_2).f4))) = some r := H
                                    have A34 := Aside0.mk A340
                                    clear A340
                                    by_cases c35 : ((rd_T24 l0 x6_2).f2) = 1
                                    · rw [if_pos c35] at H
                                      have c35b0 : (((rd_T24 l0 x6_2).f2) == 1) = true := beq_iff_eq.mpr c35
                                      have c35b1 : (((rd_T24 l0 x6_2).f2) != 1) = false := bne_eq_false_iff_eq.mpr c35
                                      clear c35
                                      by_cases c36 : a1 < 1
                                      · rw [if_pos c36] at H
                                        have c36b0 : decide (a1 < 1) = true := decide_eq_true c36
                                        clear c36
                                        obtain rfl := Option.some.inj H
                                        try go_wp2
                                        have n0_ := Aside0.mk (Kd.R_drew HO_5.out)
                                        have n1_ := Aside0.mk (blk_drew BK172.out)
                                        have n2_ := Aside0.mk (below_drew1 HB.out)
                                        clear HO_5
                                        clear BK172
                                        clear HB
                                        have HO_5 := n0_
                                        have BK172 := n1_
                                        have HB := n2_
                                        clear n0_ n1_ n2_
                                        have p176 : 0 ≤ ((ji31) : Int) := of_decide_eq_true (by first | (with_reducible assumption) | assumption)
                                        have q176 : (ji31) < (l0.length : Int) := of_decide_eq_true (by first | (with_reducible assumption) | assumption)
                                        obtain ⟨ad176, e176, hx176_0, hx176_1, hx176_2, hx176_3, hx176_4⟩ := at_T24 HR0.out (ji31) p176 q176
                                        have hw176_4 := hx176_4
                                        have hw176_3 := hx176_3
                                        have hw176_2 := hx176_2
                                        have hw176_1 := hx176_1
                                        have hw176_0 := hx176_0
                                        obtain rfl : ad171 = ad176 := (by injection e176)
                                        replace hx176_0 := (HB.out.cell (World.block_lt_of_cell? w _ hx176_0)).trans hx176_0
                                        replace hx176_1 := (HB.out.cell (World.block_lt_of_cell? w _ hx176_1)).trans hx176_1
                                        replace hx176_2 := (HB.out.cell (World.block_lt_of_cell? w _ hx176_2)).trans hx176_2
                                        replace hx176_3 := (HB.out.cell (World.block_lt_of_cell? w _ hx176_3)).trans hx176_3
                                        replace hx176_4 := (HB.out.cell (World.block_lt_of_cell? w _ hx176_4)).trans hx176_4
                                        replace p176 := eq_true p176
                                        replace q176 := eq_true q176
                                        refine start_ (n := 8) (S := fun w' => w'.cell? ⟨gb172, 0, none⟩ = some (.int .u8 ((rd_T24 l0 x6_2).f0)) ∧ w'.cell? ⟨gb172, 1, none⟩ = some (.int .u8 ((rd_T24 l0 x6_2).f1)) ∧ w'.cell? ⟨gb172, 2, none⟩ = some (.int .u8 ((rd_T24 l0 x6_2).f2)) ∧ w'.cell? ⟨gb172, 3, none⟩ = some (.int .i16 ((rd_T24 l0 x6_2).f3)) ∧ w'.cell? ⟨gb172, 4, none⟩ = some (.int .i32 ((rd_T24 l0 x6_2).f4)) ∧ w'.cell? (ad171.add (((ji31)).toNat * 5)) = some (.int .u8 ((rd_T24 l0 (ji31)).f0)) ∧ w'.cell? ⟨(ad171.add (((ji31)).toNat * 5)).block, (ad171.add (((ji31)).toNat * 5)).off + 1, none⟩ = some (.int .u8 ((rd_T24 l0 (ji31)).f1)) ∧ w'.cell? ⟨(ad171.add (((ji31)).toNat * 5)).block, (ad171.add (((ji31)).toNat * 5)).off + 2, none⟩ = some (.int .u8 ((rd_T24 l0 (ji31)).f2)) ∧ w'.cell? ⟨(ad171.add (((ji31)).toNat * 5)).block, (ad171.add (((ji31)).toNat * 5)).off + 3, none⟩ = some (.int .i16 ((rd_T24 l0 (ji31)).f3)) ∧ w'.cell? ⟨(ad171.add (((ji31)).toNat * 5)).block, (ad171.add (((ji31)).toNat * 5)).off + 4, none⟩ = some (.int .i32 ((rd_T24 l0 (ji31)).f4))) (ds := []) #[false, false, false, false, false, false, false, false] (by kernel_rfl) rfl rfl ⟨(blk_cell BK172.out 0).trans rfl, (blk_cell BK172.out 1).trans rfl, (blk_cell BK172.out 2).trans rfl, (blk_cell BK172.out 3).trans rfl, (blk_cell BK172.out 4).trans rfl, ((HB.out.cell (World.block_lt_of_cell? w _ hw176_0)).trans hw176_0), ((HB.out.cell (World.block_lt_of_cell? w _ hw176_1)).trans hw176_1), ((HB.out.cell (World.block_lt_of_cell? w _ hw176_2)).trans hw176_2), ((HB.out.cell (World.block_lt_of_cell? w _ hw176_3)).trans hw176_3), ((HB.out.cell (World.block_lt_of_cell? w _ hw176_4)).trans hw176_4)⟩ (fun hHeld => ?_); refine with_tabW halberdref03_Check.tab14 halberdref03_Check.bits14 (fun HT_ HW_ => ?_)
                                        generalize wc.drew = w37 at HO_5 BK172 HB hx176_0 hx176_1 hx176_2 hx176_3 hx176_4 hHeld ⊢
                                        refine pure_ (i := 1) (N := some 54) (v := ?_) (a' := ?_) #[false, true, false, false, false, false, false, false] rfl rfl (any_of HT_.out (by kernel_rfl)) (fun _ _ _ h => h) (Or.inl ⟨by rfl, ?_⟩) ?_ ?_
                                        rotate_left
                                        · intro w'
                                          go_simp
                                          with_reducible rfl
                                        rotate_left
                                        · simp only [Act.put, List.setIfInBounds_toArray, List.set_cons_zero, List.set_cons_succ, i64_w, i32_w]
                                          rfl
                                        refine pure_ (i := 2) (N := some 55) (v := ?_) (a' := ?_) #[false, true, true, false, false, false, false, false] rfl rfl (any_of HT_.out (by kernel_rfl)) (fun _ _ _ h => h) (Or.inl ⟨by rfl, ?_⟩) ?_ ?_
                                        rotate_left
                                        · intro w'
                                          go_simp
                                          with_reducible rfl
                                        rotate_left
                                        · simp only [Act.put, List.setIfInBounds_toArray, List.set_cons_zero, List.set_cons_succ, i64_w, i32_w]
                                          rfl
                                        refine pure_ (i := 3) (N := some 56) (v := ?_) (a' := ?_) #[false, true, true, true, false, false, false, false] rfl rfl (any_of HT_.out (by kernel_rfl)) (fun _ _ _ h => h) (Or.inl ⟨by rfl, ?_⟩) ?_ ?_
                                        rotate_left
                                        · intro w'
                                          go_simp
                                          with_reducible rfl
                                        rotate_left
                                        · simp only [Act.put, List.setIfInBounds_toArray, List.set_cons_zero, List.set_cons_succ, i64_w, i32_w]
                                          rfl
                                        refine pure_ (i := 4) (N := some 57) (v := ?_) (a' := ?_) #[false, true, true, true, true, false, false, false] rfl rfl (any_of HT_.out (by kernel_rfl)) (fun _ _ _ h => h) (Or.inl ⟨by rfl, ?_⟩) ?_ ?_
                                        rotate_left
                                        · intro w'
                                          go_simp
                                          with_reducible rfl
                                        rotate_left
                                        · simp only [Act.put, List.setIfInBounds_toArray, List.set_cons_zero, List.set_cons_succ, i64_w, i32_w]
                                          rfl
                                        refine take_ (i := 0) (N := some 53) (v := ?_) (a' := ?_) #[true, true, true, true, true, false, false, false] rfl rfl (take_ofW HT_.out HW_.out (by kernel_rfl)) (fun _ _ _ h => h) (Or.inl ⟨by rfl, ?_⟩) hHeld ?_ ?_
                                        rotate_left
                                        · rintro w' ⟨s0, s1, s2, s3, s4, s5, s6, s7, s8, s9⟩
                                          go_simp
                                          with_reducible rfl
                                        rotate_left
                                        · simp only [Act.put, List.setIfInBounds_toArray, List.set_cons_zero, List.set_cons_succ, i64_w, i32_w]
                                          rfl
                                        refine take_ (i := 5) (N := some 58) (v := ?_) (a' := ?_) #[true, true, true, true, true, true, false, false] rfl rfl (take_ofW HT_.out HW_.out (by kernel_rfl)) (fun _ _ _ h => h) (Or.inl ⟨by rfl, ?_⟩) hHeld ?_ ?_
                                        rotate_left
                                        · rintro w' ⟨s0, s1, s2, s3, s4, s5, s6, s7, s8, s9⟩
                                          go_simp
                                          with_reducible rfl
                                        rotate_left
                                        · simp only [Act.put, List.setIfInBounds_toArray, List.set_cons_zero, List.set_cons_succ, i64_w, i32_w]
                                          rfl
                                        refine one_ (i := 6) (N := some 59) #[true, true, true, true, true, true, true, false] rfl rfl (one_of HT_.out (by kernel_rfl)) (by decide) (fun K hK => ?_)
                                        refine goes_ Try.func43 (by kernel_rfl) rfl #[.agg #[.int .u8 ((rd_T24 l0 x6_2).f0), .int .u8 ((rd_T24 l0 x6_2).f1), .int .u8 ((rd_T24 l0 x6_2).f2), .int .i16 ((rd_T24 l0 x6_2).f3), .int .i32 ((rd_T24 l0 x6_2).f4)], .agg #[.int .u8 ((rd_T24 l0 (ji31)).f0), .int .u8 ((rd_T24 l0 (ji31)).f1), .int .u8 ((rd_T24 l0 (ji31)).f2), .int .i16 ((rd_T24 l0 (ji31)).f3), .int .i32 ((rd_T24 l0 (ji31)).f4)]] (by rfl) rfl rfl (by (try simp only [List.map_toArray, List.map_cons, List.map_nil]); first | done | (simp only [hji31]; rfl) | rfl | (simp only [List.length_drop, List.length_take]; rfl)) ?_
                                        with_reducible refine (halberdref02_Wide.calls kj24 ((rd_T24 l0 x6_2).f0) ((rd_T24 l0 x6_2).f1) ((rd_T24 l0 x6_2).f2) ((rd_T24 l0 x6_2).f3) ((rd_T24 l0 x6_2).f4) ((rd_T24 l0 (ji31)).f0) ((rd_T24 l0 (ji31)).f1) ((rd_T24 l0 (ji31)).f2) ((rd_T24 l0 (ji31)).f3) ((rd_T24 l0 (ji31)).f4) t177 _ A34.out).mono ?_
                                        rintro e w38 ⟨rfl, hb⟩
                                        refine ⟨_, rfl, ?_⟩
                                        have n0_ := Aside0.mk (Kd.R_below (by (with_reducible repeat (first | apply Kd.R_alloc | apply Kd.R_drewN | apply Kd.R_drew)); exact HO_5.out) hb)
                                        have n1_ := Aside0.mk (blk_below (g := gb172) (o := .cells #[.int .u8 ((rd_T24 l0 x6_2).f0), .int .u8 ((rd_T24 l0 x6_2).f1), .int .u8 ((rd_T24 l0 x6_2).f2), .int .i16 ((rd_T24 l0 x6_2).f3), .int .i32 ((rd_T24 l0 x6_2).f4)] 24 (0, 0)) (by (with_reducible repeat (first | refine blk_drewN ?_ _ | refine blk_drew ?_ | refine blk_alloc ?_ _)); exact BK172.out) hb)
                                        have n2_ := Aside0.mk (below_step (by repeat (first | (with_reducible first | exact HB.out | apply below_alloc | apply pw_below_drewN | apply below_drew1 | refine below_set ?_ GE172.out) | exact HB.out)) hb)
                                        clear HO_5
                                        clear BK172
                                        clear HB
                                        have HO_5 := n0_
                                        have BK172 := n1_
                                        have HB := n2_
                                        clear n0_ n1_ n2_
                                        (try clear hb)
                                        (try clear hb2)
                                        (try clear hk)
                                        (try clear hi)
                                        refine hK.out _ _ ⟨(blk_cell BK172.out 0).trans rfl, (blk_cell BK172.out 1).trans rfl, (blk_cell BK172.out 2).trans rfl, (blk_cell BK172.out 3).trans rfl, (blk_cell BK172.out 4).trans rfl, ((HB.out.cell (World.block_lt_of_cell? w _ hw176_0)).trans hw176_0), ((HB.out.cell (World.block_lt_of_cell? w _ hw176_1)).trans hw176_1), ((HB.out.cell (World.block_lt_of_cell? w _ hw176_2)).trans hw176_2), ((HB.out.cell (World.block_lt_of_cell? w _ hw176_3)).trans hw176_3), ((HB.out.cell (World.block_lt_of_cell? w _ hw176_4)).trans hw176_4)⟩ (fun hHeld => ?_)
                                        clear hK K
                                        refine norm_ (a' := ?_) ?_ ?_
                                        rotate_left
                                        · show Act.put _ (some 59) _ = _
                                          simp only [Act.put, List.setIfInBounds_toArray, List.set_cons_zero, List.set_cons_succ, i64_w, i32_w]
                                          rfl
                                        refine pure_ (i := 7) (N := some 8) (v := ?_) (a' := ?_) #[true, true, true, true, true, true, true, true] rfl rfl (any_of HT_.out (by kernel_rfl)) (fun _ _ _ h => h) (Or.inl ⟨by rfl, ?_⟩) ?_ ?_
                                        rotate_left
                                        · intro w'
                                          go_simp
                                          with_reducible rfl
                                        rotate_left
                                        · simp only [Act.put, List.setIfInBounds_toArray, List.set_cons_zero, List.set_cons_succ, i64_w, i32_w]
                                          rfl
                                        refine done_ (done_of HT_.out (by kernel_rfl)) ?_
                                        have hcz39_0 : w38.cell? ⟨gb172, 0, none⟩ = some (.int .u8 ((rd_T24 l0 x6_2).f0)) := (blk_cell BK172.out 0).trans rfl
                                        have hcz39_1 : w38.cell? ⟨gb172, 1, none⟩ = some (.int .u8 ((rd_T24 l0 x6_2).f1)) := (blk_cell BK172.out 1).trans rfl
                                        have hcz39_2 : w38.cell? ⟨gb172, 2, none⟩ = some (.int .u8 ((rd_T24 l0 x6_2).f2)) := (blk_cell BK172.out 2).trans rfl
                                        have hcz39_3 : w38.cell? ⟨gb172, 3, none⟩ = some (.int .i16 ((rd_T24 l0 x6_2).f3)) := (blk_cell BK172.out 3).trans rfl
                                        have hcz39_4 : w38.cell? ⟨gb172, 4, none⟩ = some (.int .i32 ((rd_T24 l0 x6_2).f4)) := (blk_cell BK172.out 4).trans rfl
                                        have hfz39_0 := blk_frozen BK172.out 0
                                        have hfz39_1 := blk_frozen BK172.out 1
                                        have hfz39_2 := blk_frozen BK172.out 2
                                        have hfz39_3 := blk_frozen BK172.out 3
                                        have hfz39_4 := blk_frozen BK172.out 4
                                        try go_wp2
                                        go_ret
                                        exact ⟨by first | rfl | (simp [errW_none, errW_some] <;> rfl) | (simp only [← hji31]; first | rfl | (simp [errW_none, errW_some] <;> rfl)) | (simp [*, errW_none, errW_some] <;> rfl), by repeat (first | (with_reducible first | exact HB.out | apply below_alloc | apply pw_below_drewN | apply below_drew1 | refine below_set ?_ GE172.out) | exact HB.out)⟩
                                      · rw [if_neg c36] at H
                                        have c36b0 : decide (a1 < 1) = false := decide_eq_false c36
                                        clear c36
                                        by_cases c40 : t177 ≥ (IntKind.u64.wrap (a1))
                                        · rw [if_pos c40] at H
                                          have c40b0 : decide ((IntKind.u64.wrap (a1)) ≤ t177) = true := decide_eq_true c40
                                          clear c40
                                          obtain rfl := Option.some.inj H
                                          try go_wp2
                                          have n0_ := Aside0.mk (Kd.R_drew HO_5.out)
                                          have n1_ := Aside0.mk (blk_drew BK172.out)
                                          have n2_ := Aside0.mk (below_drew1 HB.out)
                                          clear HO_5
                                          clear BK172
                                          clear HB
                                          have HO_5 := n0_
                                          have BK172 := n1_
                                          have HB := n2_
                                          clear n0_ n1_ n2_
                                          have p176 : 0 ≤ ((ji31) : Int) := of_decide_eq_true (by first | (with_reducible assumption) | assumption)
                                          have q176 : (ji31) < (l0.length : Int) := of_decide_eq_true (by first | (with_reducible assumption) | assumption)
                                          obtain ⟨ad176, e176, hx176_0, hx176_1, hx176_2, hx176_3, hx176_4⟩ := at_T24 HR0.out (ji31) p176 q176
                                          have hw176_4 := hx176_4
                                          have hw176_3 := hx176_3
                                          have hw176_2 := hx176_2
                                          have hw176_1 := hx176_1
                                          have hw176_0 := hx176_0
                                          obtain rfl : ad171 = ad176 := (by injection e176)
                                          replace hx176_0 := (HB.out.cell (World.block_lt_of_cell? w _ hx176_0)).trans hx176_0
                                          replace hx176_1 := (HB.out.cell (World.block_lt_of_cell? w _ hx176_1)).trans hx176_1
                                          replace hx176_2 := (HB.out.cell (World.block_lt_of_cell? w _ hx176_2)).trans hx176_2
                                          replace hx176_3 := (HB.out.cell (World.block_lt_of_cell? w _ hx176_3)).trans hx176_3
                                          replace hx176_4 := (HB.out.cell (World.block_lt_of_cell? w _ hx176_4)).trans hx176_4
                                          replace p176 := eq_true p176
                                          replace q176 := eq_true q176
                                          refine start_ (n := 8) (S := fun w' => w'.cell? ⟨gb172, 0, none⟩ = some (.int .u8 ((rd_T24 l0 x6_2).f0)) ∧ w'.cell? ⟨gb172, 1, none⟩ = some (.int .u8 ((rd_T24 l0 x6_2).f1)) ∧ w'.cell? ⟨gb172, 2, none⟩ = some (.int .u8 ((rd_T24 l0 x6_2).f2)) ∧ w'.cell? ⟨gb172, 3, none⟩ = some (.int .i16 ((rd_T24 l0 x6_2).f3)) ∧ w'.cell? ⟨gb172, 4, none⟩ = some (.int .i32 ((rd_T24 l0 x6_2).f4)) ∧ w'.cell? (ad171.add (((ji31)).toNat * 5)) = some (.int .u8 ((rd_T24 l0 (ji31)).f0)) ∧ w'.cell? ⟨(ad171.add (((ji31)).toNat * 5)).block, (ad171.add (((ji31)).toNat * 5)).off + 1, none⟩ = some (.int .u8 ((rd_T24 l0 (ji31)).f1)) ∧ w'.cell? ⟨(ad171.add (((ji31)).toNat * 5)).block, (ad171.add (((ji31)).toNat * 5)).off + 2, none⟩ = some (.int .u8 ((rd_T24 l0 (ji31)).f2)) ∧ w'.cell? ⟨(ad171.add (((ji31)).toNat * 5)).block, (ad171.add (((ji31)).toNat * 5)).off + 3, none⟩ = some (.int .i16 ((rd_T24 l0 (ji31)).f3)) ∧ w'.cell? ⟨(ad171.add (((ji31)).toNat * 5)).block, (ad171.add (((ji31)).toNat * 5)).off + 4, none⟩ = some (.int .i32 ((rd_T24 l0 (ji31)).f4))) (ds := []) #[false, false, false, false, false, false, false, false] (by kernel_rfl) rfl rfl ⟨(blk_cell BK172.out 0).trans rfl, (blk_cell BK172.out 1).trans rfl, (blk_cell BK172.out 2).trans rfl, (blk_cell BK172.out 3).trans rfl, (blk_cell BK172.out 4).trans rfl, ((HB.out.cell (World.block_lt_of_cell? w _ hw176_0)).trans hw176_0), ((HB.out.cell (World.block_lt_of_cell? w _ hw176_1)).trans hw176_1), ((HB.out.cell (World.block_lt_of_cell? w _ hw176_2)).trans hw176_2), ((HB.out.cell (World.block_lt_of_cell? w _ hw176_3)).trans hw176_3), ((HB.out.cell (World.block_lt_of_cell? w _ hw176_4)).trans hw176_4)⟩ (fun hHeld => ?_); refine with_tabW halberdref03_Check.tab14 halberdref03_Check.bits14 (fun HT_ HW_ => ?_)
                                          generalize wc.drew = w41 at HO_5 BK172 HB hx176_0 hx176_1 hx176_2 hx176_3 hx176_4 hHeld ⊢
                                          refine pure_ (i := 1) (N := some 54) (v := ?_) (a' := ?_) #[false, true, false, false, false, false, false, false] rfl rfl (any_of HT_.out (by kernel_rfl)) (fun _ _ _ h => h) (Or.inl ⟨by rfl, ?_⟩) ?_ ?_
                                          rotate_left
                                          · intro w'
                                            go_simp
                                            with_reducible rfl
                                          rotate_left
                                          · simp only [Act.put, List.setIfInBounds_toArray, List.set_cons_zero, List.set_cons_succ, i64_w, i32_w]
                                            rfl
                                          refine pure_ (i := 2) (N := some 55) (v := ?_) (a' := ?_) #[false, true, true, false, false, false, false, false] rfl rfl (any_of HT_.out (by kernel_rfl)) (fun _ _ _ h => h) (Or.inl ⟨by rfl, ?_⟩) ?_ ?_
                                          rotate_left
                                          · intro w'
                                            go_simp
                                            with_reducible rfl
                                          rotate_left
                                          · simp only [Act.put, List.setIfInBounds_toArray, List.set_cons_zero, List.set_cons_succ, i64_w, i32_w]
                                            rfl
                                          refine pure_ (i := 3) (N := some 56) (v := ?_) (a' := ?_) #[false, true, true, true, false, false, false, false] rfl rfl (any_of HT_.out (by kernel_rfl)) (fun _ _ _ h => h) (Or.inl ⟨by rfl, ?_⟩) ?_ ?_
                                          rotate_left
                                          · intro w'
                                            go_simp
                                            with_reducible rfl
                                          rotate_left
                                          · simp only [Act.put, List.setIfInBounds_toArray, List.set_cons_zero, List.set_cons_succ, i64_w, i32_w]
                                            rfl
                                          refine pure_ (i := 4) (N := some 57) (v := ?_) (a' := ?_) #[false, true, true, true, true, false, false, false] rfl rfl (any_of HT_.out (by kernel_rfl)) (fun _ _ _ h => h) (Or.inl ⟨by rfl, ?_⟩) ?_ ?_
                                          rotate_left
                                          · intro w'
                                            go_simp
                                            with_reducible rfl
                                          rotate_left
                                          · simp only [Act.put, List.setIfInBounds_toArray, List.set_cons_zero, List.set_cons_succ, i64_w, i32_w]
                                            rfl
                                          refine take_ (i := 0) (N := some 53) (v := ?_) (a' := ?_) #[true, true, true, true, true, false, false, false] rfl rfl (take_ofW HT_.out HW_.out (by kernel_rfl)) (fun _ _ _ h => h) (Or.inl ⟨by rfl, ?_⟩) hHeld ?_ ?_
                                          rotate_left
                                          · rintro w' ⟨s0, s1, s2, s3, s4, s5, s6, s7, s8, s9⟩
                                            go_simp
                                            with_reducible rfl
                                          rotate_left
                                          · simp only [Act.put, List.setIfInBounds_toArray, List.set_cons_zero, List.set_cons_succ, i64_w, i32_w]
                                            rfl
                                          refine take_ (i := 5) (N := some 58) (v := ?_) (a' := ?_) #[true, true, true, true, true, true, false, false] rfl rfl (take_ofW HT_.out HW_.out (by kernel_rfl)) (fun _ _ _ h => h) (Or.inl ⟨by rfl, ?_⟩) hHeld ?_ ?_
                                          rotate_left
                                          · rintro w' ⟨s0, s1, s2, s3, s4, s5, s6, s7, s8, s9⟩
                                            go_simp
                                            with_reducible rfl
                                          rotate_left
                                          · simp only [Act.put, List.setIfInBounds_toArray, List.set_cons_zero, List.set_cons_succ, i64_w, i32_w]
                                            rfl
                                          refine one_ (i := 6) (N := some 59) #[true, true, true, true, true, true, true, false] rfl rfl (one_of HT_.out (by kernel_rfl)) (by decide) (fun K hK => ?_)
                                          refine goes_ Try.func43 (by kernel_rfl) rfl #[.agg #[.int .u8 ((rd_T24 l0 x6_2).f0), .int .u8 ((rd_T24 l0 x6_2).f1), .int .u8 ((rd_T24 l0 x6_2).f2), .int .i16 ((rd_T24 l0 x6_2).f3), .int .i32 ((rd_T24 l0 x6_2).f4)], .agg #[.int .u8 ((rd_T24 l0 (ji31)).f0), .int .u8 ((rd_T24 l0 (ji31)).f1), .int .u8 ((rd_T24 l0 (ji31)).f2), .int .i16 ((rd_T24 l0 (ji31)).f3), .int .i32 ((rd_T24 l0 (ji31)).f4)]] (by rfl) rfl rfl (by (try simp only [List.map_toArray, List.map_cons, List.map_nil]); first | done | (simp only [hji31]; rfl) | rfl | (simp only [List.length_drop, List.length_take]; rfl)) ?_
                                          with_reducible refine (halberdref02_Wide.calls kj24 ((rd_T24 l0 x6_2).f0) ((rd_T24 l0 x6_2).f1) ((rd_T24 l0 x6_2).f2) ((rd_T24 l0 x6_2).f3) ((rd_T24 l0 x6_2).f4) ((rd_T24 l0 (ji31)).f0) ((rd_T24 l0 (ji31)).f1) ((rd_T24 l0 (ji31)).f2) ((rd_T24 l0 (ji31)).f3) ((rd_T24 l0 (ji31)).f4) t177 _ A34.out).mono ?_
                                          rintro e w42 ⟨rfl, hb⟩
                                          refine ⟨_, rfl, ?_⟩
                                          have n0_ := Aside0.mk (Kd.R_below (by (with_reducible repeat (first | apply Kd.R_alloc | apply Kd.R_drewN | apply Kd.R_drew)); exact HO_5.out) hb)
                                          have n1_ := Aside0.mk (blk_below (g := gb172) (o := .cells #[.int .u8 ((rd_T24 l0 x6_2).f0), .int .u8 ((rd_T24 l0 x6_2).f1), .int .u8 ((rd_T24 l0 x6_2).f2), .int .i16 ((rd_T24 l0 x6_2).f3), .int .i32 ((rd_T24 l0 x6_2).f4)] 24 (0, 0)) (by (with_reducible repeat (first | refine blk_drewN ?_ _ | refine blk_drew ?_ | refine blk_alloc ?_ _)); exact BK172.out) hb)
                                          have n2_ := Aside0.mk (below_step (by repeat (first | (with_reducible first | exact HB.out | apply below_alloc | apply pw_below_drewN | apply below_drew1 | refine below_set ?_ GE172.out) | exact HB.out)) hb)
                                          clear HO_5
                                          clear BK172
                                          clear HB
                                          have HO_5 := n0_
                                          have BK172 := n1_
                                          have HB := n2_
                                          clear n0_ n1_ n2_
                                          (try clear hb)
                                          (try clear hb2)
                                          (try clear hk)
                                          (try clear hi)
                                          refine hK.out _ _ ⟨(blk_cell BK172.out 0).trans rfl, (blk_cell BK172.out 1).trans rfl, (blk_cell BK172.out 2).trans rfl, (blk_cell BK172.out 3).trans rfl, (blk_cell BK172.out 4).trans rfl, ((HB.out.cell (World.block_lt_of_cell? w _ hw176_0)).trans hw176_0), ((HB.out.cell (World.block_lt_of_cell? w _ hw176_1)).trans hw176_1), ((HB.out.cell (World.block_lt_of_cell? w _ hw176_2)).trans hw176_2), ((HB.out.cell (World.block_lt_of_cell? w _ hw176_3)).trans hw176_3), ((HB.out.cell (World.block_lt_of_cell? w _ hw176_4)).trans hw176_4)⟩ (fun hHeld => ?_)
                                          clear hK K
                                          refine norm_ (a' := ?_) ?_ ?_
                                          rotate_left
                                          · show Act.put _ (some 59) _ = _
                                            simp only [Act.put, List.setIfInBounds_toArray, List.set_cons_zero, List.set_cons_succ, i64_w, i32_w]
                                            rfl
                                          refine pure_ (i := 7) (N := some 8) (v := ?_) (a' := ?_) #[true, true, true, true, true, true, true, true] rfl rfl (any_of HT_.out (by kernel_rfl)) (fun _ _ _ h => h) (Or.inl ⟨by rfl, ?_⟩) ?_ ?_
                                          rotate_left
                                          · intro w'
                                            go_simp
                                            with_reducible rfl
                                          rotate_left
                                          · simp only [Act.put, List.setIfInBounds_toArray, List.set_cons_zero, List.set_cons_succ, i64_w, i32_w]
                                            rfl
                                          refine done_ (done_of HT_.out (by kernel_rfl)) ?_
                                          have hcz43_0 : w42.cell? ⟨gb172, 0, none⟩ = some (.int .u8 ((rd_T24 l0 x6_2).f0)) := (blk_cell BK172.out 0).trans rfl
                                          have hcz43_1 : w42.cell? ⟨gb172, 1, none⟩ = some (.int .u8 ((rd_T24 l0 x6_2).f1)) := (blk_cell BK172.out 1).trans rfl
                                          have hcz43_2 : w42.cell? ⟨gb172, 2, none⟩ = some (.int .u8 ((rd_T24 l0 x6_2).f2)) := (blk_cell BK172.out 2).trans rfl
                                          have hcz43_3 : w42.cell? ⟨gb172, 3, none⟩ = some (.int .i16 ((rd_T24 l0 x6_2).f3)) := (blk_cell BK172.out 3).trans rfl
                                          have hcz43_4 : w42.cell? ⟨gb172, 4, none⟩ = some (.int .i32 ((rd_T24 l0 x6_2).f4)) := (blk_cell BK172.out 4).trans rfl
                                          have hfz43_0 := blk_frozen BK172.out 0
                                          have hfz43_1 := blk_frozen BK172.out 1
                                          have hfz43_2 := blk_frozen BK172.out 2
                                          have hfz43_3 := blk_frozen BK172.out 3
                                          have hfz43_4 := blk_frozen BK172.out 4
                                          try go_wp2
                                          go_ret
                                          exact ⟨by first | rfl | (simp [errW_none, errW_some] <;> rfl) | (simp only [← hji31]; first | rfl | (simp [errW_none, errW_some] <;> rfl)) | (simp [*, errW_none, errW_some] <;> rfl), by repeat (first | (with_reducible first | exact HB.out | apply below_alloc | apply pw_below_drewN | apply below_drew1 | refine below_set ?_ GE172.out) | exact HB.out)⟩
                                        · rw [if_neg c40] at H
                                          have c40b0 : decide ((IntKind.u64.wrap (a1)) ≤ t177) = false := decide_eq_false c40
                                          clear c40
                                          have H' := Aside0.mk H
                                          clear H
                                          try go_wp2
                                          have n0_ := Aside0.mk (Kd.R_drew HO_5.out)
                                          have n1_ := Aside0.mk (blk_drew BK172.out)
                                          have n2_ := Aside0.mk (below_drew1 HB.out)
                                          clear HO_5
                                          clear BK172
                                          clear HB
                                          have HO_5 := n0_
                                          have BK172 := n1_
                                          have HB := n2_
                                          clear n0_ n1_ n2_
                                          have p176 : 0 ≤ ((ji31) : Int) := of_decide_eq_true (by first | (with_reducible assumption) | assumption)
                                          have q176 : (ji31) < (l0.length : Int) := of_decide_eq_true (by first | (with_reducible assumption) | assumption)
                                          obtain ⟨ad176, e176, hx176_0, hx176_1, hx176_2, hx176_3, hx176_4⟩ := at_T24 HR0.out (ji31) p176 q176
                                          have hw176_4 := hx176_4
                                          have hw176_3 := hx176_3
                                          have hw176_2 := hx176_2
                                          have hw176_1 := hx176_1
                                          have hw176_0 := hx176_0
                                          obtain rfl : ad171 = ad176 := (by injection e176)
                                          replace hx176_0 := (HB.out.cell (World.block_lt_of_cell? w _ hx176_0)).trans hx176_0
                                          replace hx176_1 := (HB.out.cell (World.block_lt_of_cell? w _ hx176_1)).trans hx176_1
                                          replace hx176_2 := (HB.out.cell (World.block_lt_of_cell? w _ hx176_2)).trans hx176_2
                                          replace hx176_3 := (HB.out.cell (World.block_lt_of_cell? w _ hx176_3)).trans hx176_3
                                          replace hx176_4 := (HB.out.cell (World.block_lt_of_cell? w _ hx176_4)).trans hx176_4
                                          replace p176 := eq_true p176
                                          replace q176 := eq_true q176
                                          refine start_ (n := 8) (S := fun w' => w'.cell? ⟨gb172, 0, none⟩ = some (.int .u8 ((rd_T24 l0 x6_2).f0)) ∧ w'.cell? ⟨gb172, 1, none⟩ = some (.int .u8 ((rd_T24 l0 x6_2).f1)) ∧ w'.cell? ⟨gb172, 2, none⟩ = some (.int .u8 ((rd_T24 l0 x6_2).f2)) ∧ w'.cell? ⟨gb172, 3, none⟩ = some (.int .i16 ((rd_T24 l0 x6_2).f3)) ∧ w'.cell? ⟨gb172, 4, none⟩ = some (.int .i32 ((rd_T24 l0 x6_2).f4)) ∧ w'.cell? (ad171.add (((ji31)).toNat * 5)) = some (.int .u8 ((rd_T24 l0 (ji31)).f0)) ∧ w'.cell? ⟨(ad171.add (((ji31)).toNat * 5)).block, (ad171.add (((ji31)).toNat * 5)).off + 1, none⟩ = some (.int .u8 ((rd_T24 l0 (ji31)).f1)) ∧ w'.cell? ⟨(ad171.add (((ji31)).toNat * 5)).block, (ad171.add (((ji31)).toNat * 5)).off + 2, none⟩ = some (.int .u8 ((rd_T24 l0 (ji31)).f2)) ∧ w'.cell? ⟨(ad171.add (((ji31)).toNat * 5)).block, (ad171.add (((ji31)).toNat * 5)).off + 3, none⟩ = some (.int .i16 ((rd_T24 l0 (ji31)).f3)) ∧ w'.cell? ⟨(ad171.add (((ji31)).toNat * 5)).block, (ad171.add (((ji31)).toNat * 5)).off + 4, none⟩ = some (.int .i32 ((rd_T24 l0 (ji31)).f4))) (ds := []) #[false, false, false, false, false, false, false, false] (by kernel_rfl) rfl rfl ⟨(blk_cell BK172.out 0).trans rfl, (blk_cell BK172.out 1).trans rfl, (blk_cell BK172.out 2).trans rfl, (blk_cell BK172.out 3).trans rfl, (blk_cell BK172.out 4).trans rfl, ((HB.out.cell (World.block_lt_of_cell? w _ hw176_0)).trans hw176_0), ((HB.out.cell (World.block_lt_of_cell? w _ hw176_1)).trans hw176_1), ((HB.out.cell (World.block_lt_of_cell? w _ hw176_2)).trans hw176_2), ((HB.out.cell (World.block_lt_of_cell? w _ hw176_3)).trans hw176_3), ((HB.out.cell (World.block_lt_of_cell? w _ hw176_4)).trans hw176_4)⟩ (fun hHeld => ?_); refine with_tabW halberdref03_Check.tab14 halberdref03_Check.bits14 (fun HT_ HW_ => ?_)
                                          generalize wc.drew = w44 at HO_5 BK172 HB hx176_0 hx176_1 hx176_2 hx176_3 hx176_4 hHeld ⊢
                                          refine pure_ (i := 1) (N := some 54) (v := ?_) (a' := ?_) #[false, true, false, false, false, false, false, false] rfl rfl (any_of HT_.out (by kernel_rfl)) (fun _ _ _ h => h) (Or.inl ⟨by rfl, ?_⟩) ?_ ?_
                                          rotate_left
                                          · intro w'
                                            go_simp
                                            with_reducible rfl
                                          rotate_left
                                          · simp only [Act.put, List.setIfInBounds_toArray, List.set_cons_zero, List.set_cons_succ, i64_w, i32_w]
                                            rfl
                                          refine pure_ (i := 2) (N := some 55) (v := ?_) (a' := ?_) #[false, true, true, false, false, false, false, false] rfl rfl (any_of HT_.out (by kernel_rfl)) (fun _ _ _ h => h) (Or.inl ⟨by rfl, ?_⟩) ?_ ?_
                                          rotate_left
                                          · intro w'
                                            go_simp
                                            with_reducible rfl
                                          rotate_left
                                          · simp only [Act.put, List.setIfInBounds_toArray, List.set_cons_zero, List.set_cons_succ, i64_w, i32_w]
                                            rfl
                                          refine pure_ (i := 3) (N := some 56) (v := ?_) (a' := ?_) #[false, true, true, true, false, false, false, false] rfl rfl (any_of HT_.out (by kernel_rfl)) (fun _ _ _ h => h) (Or.inl ⟨by rfl, ?_⟩) ?_ ?_
                                          rotate_left
                                          · intro w'
                                            go_simp
                                            with_reducible rfl
                                          rotate_left
                                          · simp only [Act.put, List.setIfInBounds_toArray, List.set_cons_zero, List.set_cons_succ, i64_w, i32_w]
                                            rfl
                                          refine pure_ (i := 4) (N := some 57) (v := ?_) (a' := ?_) #[false, true, true, true, true, false, false, false] rfl rfl (any_of HT_.out (by kernel_rfl)) (fun _ _ _ h => h) (Or.inl ⟨by rfl, ?_⟩) ?_ ?_
                                          rotate_left
                                          · intro w'
                                            go_simp
                                            with_reducible rfl
                                          rotate_left
                                          · simp only [Act.put, List.setIfInBounds_toArray, List.set_cons_zero, List.set_cons_succ, i64_w, i32_w]
                                            rfl
                                          refine take_ (i := 0) (N := some 53) (v := ?_) (a' := ?_) #[true, true, true, true, true, false, false, false] rfl rfl (take_ofW HT_.out HW_.out (by kernel_rfl)) (fun _ _ _ h => h) (Or.inl ⟨by rfl, ?_⟩) hHeld ?_ ?_
                                          rotate_left
                                          · rintro w' ⟨s0, s1, s2, s3, s4, s5, s6, s7, s8, s9⟩
                                            go_simp
                                            with_reducible rfl
                                          rotate_left
                                          · simp only [Act.put, List.setIfInBounds_toArray, List.set_cons_zero, List.set_cons_succ, i64_w, i32_w]
                                            rfl
                                          refine take_ (i := 5) (N := some 58) (v := ?_) (a' := ?_) #[true, true, true, true, true, true, false, false] rfl rfl (take_ofW HT_.out HW_.out (by kernel_rfl)) (fun _ _ _ h => h) (Or.inl ⟨by rfl, ?_⟩) hHeld ?_ ?_
                                          rotate_left
                                          · rintro w' ⟨s0, s1, s2, s3, s4, s5, s6, s7, s8, s9⟩
                                            go_simp
                                            with_reducible rfl
                                          rotate_left
                                          · simp only [Act.put, List.setIfInBounds_toArray, List.set_cons_zero, List.set_cons_succ, i64_w, i32_w]
                                            rfl
                                          refine one_ (i := 6) (N := some 59) #[true, true, true, true, true, true, true, false] rfl rfl (one_of HT_.out (by kernel_rfl)) (by decide) (fun K hK => ?_)
                                          refine goes_ Try.func43 (by kernel_rfl) rfl #[.agg #[.int .u8 ((rd_T24 l0 x6_2).f0), .int .u8 ((rd_T24 l0 x6_2).f1), .int .u8 ((rd_T24 l0 x6_2).f2), .int .i16 ((rd_T24 l0 x6_2).f3), .int .i32 ((rd_T24 l0 x6_2).f4)], .agg #[.int .u8 ((rd_T24 l0 (ji31)).f0), .int .u8 ((rd_T24 l0 (ji31)).f1), .int .u8 ((rd_T24 l0 (ji31)).f2), .int .i16 ((rd_T24 l0 (ji31)).f3), .int .i32 ((rd_T24 l0 (ji31)).f4)]] (by rfl) rfl rfl (by (try simp only [List.map_toArray, List.map_cons, List.map_nil]); first | done | (simp only [hji31]; rfl) | rfl | (simp only [List.length_drop, List.length_take]; rfl)) ?_
                                          with_reducible refine (halberdref02_Wide.calls kj24 ((rd_T24 l0 x6_2).f0) ((rd_T24 l0 x6_2).f1) ((rd_T24 l0 x6_2).f2) ((rd_T24 l0 x6_2).f3) ((rd_T24 l0 x6_2).f4) ((rd_T24 l0 (ji31)).f0) ((rd_T24 l0 (ji31)).f1) ((rd_T24 l0 (ji31)).f2) ((rd_T24 l0 (ji31)).f3) ((rd_T24 l0 (ji31)).f4) t177 _ A34.out).mono ?_
                                          rintro e w45 ⟨rfl, hb⟩
                                          refine ⟨_, rfl, ?_⟩
                                          have n0_ := Aside0.mk (Kd.R_below (by (with_reducible repeat (first | apply Kd.R_alloc | apply Kd.R_drewN | apply Kd.R_drew)); exact HO_5.out) hb)
                                          have n1_ := Aside0.mk (blk_below (g := gb172) (o := .cells #[.int .u8 ((rd_T24 l0 x6_2).f0), .int .u8 ((rd_T24 l0 x6_2).f1), .int .u8 ((rd_T24 l0 x6_2).f2), .int .i16 ((rd_T24 l0 x6_2).f3), .int .i32 ((rd_T24 l0 x6_2).f4)] 24 (0, 0)) (by (with_reducible repeat (first | refine blk_drewN ?_ _ | refine blk_drew ?_ | refine blk_alloc ?_ _)); exact BK172.out) hb)
                                          have n2_ := Aside0.mk (below_step (by repeat (first | (with_reducible first | exact HB.out | apply below_alloc | apply pw_below_drewN | apply below_drew1 | refine below_set ?_ GE172.out) | exact HB.out)) hb)
                                          clear HO_5
                                          clear BK172
                                          clear HB
                                          have HO_5 := n0_
                                          have BK172 := n1_
                                          have HB := n2_
                                          clear n0_ n1_ n2_
                                          (try clear hb)
                                          (try clear hb2)
                                          (try clear hk)
                                          (try clear hi)
                                          refine hK.out _ _ ⟨(blk_cell BK172.out 0).trans rfl, (blk_cell BK172.out 1).trans rfl, (blk_cell BK172.out 2).trans rfl, (blk_cell BK172.out 3).trans rfl, (blk_cell BK172.out 4).trans rfl, ((HB.out.cell (World.block_lt_of_cell? w _ hw176_0)).trans hw176_0), ((HB.out.cell (World.block_lt_of_cell? w _ hw176_1)).trans hw176_1), ((HB.out.cell (World.block_lt_of_cell? w _ hw176_2)).trans hw176_2), ((HB.out.cell (World.block_lt_of_cell? w _ hw176_3)).trans hw176_3), ((HB.out.cell (World.block_lt_of_cell? w _ hw176_4)).trans hw176_4)⟩ (fun hHeld => ?_)
                                          clear hK K
                                          refine norm_ (a' := ?_) ?_ ?_
                                          rotate_left
                                          · show Act.put _ (some 59) _ = _
                                            simp only [Act.put, List.setIfInBounds_toArray, List.set_cons_zero, List.set_cons_succ, i64_w, i32_w]
                                            rfl
                                          refine pure_ (i := 7) (N := some 8) (v := ?_) (a' := ?_) #[true, true, true, true, true, true, true, true] rfl rfl (any_of HT_.out (by kernel_rfl)) (fun _ _ _ h => h) (Or.inl ⟨by rfl, ?_⟩) ?_ ?_
                                          rotate_left
                                          · intro w'
                                            go_simp
                                            with_reducible rfl
                                          rotate_left
                                          · simp only [Act.put, List.setIfInBounds_toArray, List.set_cons_zero, List.set_cons_succ, i64_w, i32_w]
                                            rfl
                                          refine done_ (done_of HT_.out (by kernel_rfl)) ?_
                                          have hcz46_0 : w45.cell? ⟨gb172, 0, none⟩ = some (.int .u8 ((rd_T24 l0 x6_2).f0)) := (blk_cell BK172.out 0).trans rfl
                                          have hcz46_1 : w45.cell? ⟨gb172, 1, none⟩ = some (.int .u8 ((rd_T24 l0 x6_2).f1)) := (blk_cell BK172.out 1).trans rfl
                                          have hcz46_2 : w45.cell? ⟨gb172, 2, none⟩ = some (.int .u8 ((rd_T24 l0 x6_2).f2)) := (blk_cell BK172.out 2).trans rfl
                                          have hcz46_3 : w45.cell? ⟨gb172, 3, none⟩ = some (.int .i16 ((rd_T24 l0 x6_2).f3)) := (blk_cell BK172.out 3).trans rfl
                                          have hcz46_4 : w45.cell? ⟨gb172, 4, none⟩ = some (.int .i32 ((rd_T24 l0 x6_2).f4)) := (blk_cell BK172.out 4).trans rfl
                                          have hfz46_0 := blk_frozen BK172.out 0
                                          have hfz46_1 := blk_frozen BK172.out 1
                                          have hfz46_2 := blk_frozen BK172.out 2
                                          have hfz46_3 := blk_frozen BK172.out 3
                                          have hfz46_4 := blk_frozen BK172.out 4
                                          try go_wp2
                                          go_meet
                                          case rel => exact ⟨_, H', ⟨by have := HJ2.out; have := HK2.out; have := HJ24.out; first | omega | exact Nat.le_refl _⟩, ⟨by (with_reducible repeat (first | apply Kd.R_alloc | apply Kd.R_drewN | apply Kd.R_drew)); exact HO_5.out⟩, ⟨by (with_reducible repeat (first | refine blk_drewN ?_ _ | refine blk_drew ?_ | refine blk_alloc ?_ _)); exact BK172.out⟩, ⟨by repeat (first | (with_reducible first | exact HB.out | apply below_alloc | apply pw_below_drewN | apply below_drew1 | refine below_set ?_ GE172.out) | exact HB.out)⟩⟩
                                    · rw [if_neg c35] at H
                                      have c35b0 : (((rd_T24 l0 x6_2).f2) == 1) = false := beq_eq_false_iff_ne.mpr c35
                                      have c35b1 : (((rd_T24 l0 x6_2).f2) != 1) = true := bne_iff_ne.mpr c35
                                      have H' := Aside0.mk H
                                      clear H
                                      try go_wp2
                                      have n0_ := Aside0.mk (Kd.R_drew HO_5.out)
                                      have n1_ := Aside0.mk (blk_drew BK172.out)
                                      have n2_ := Aside0.mk (below_drew1 HB.out)
                                      clear HO_5
                                      clear BK172
                                      clear HB
                                      have HO_5 := n0_
                                      have BK172 := n1_
                                      have HB := n2_
                                      clear n0_ n1_ n2_
                                      have p176 : 0 ≤ ((ji31) : Int) := of_decide_eq_true (by first | (with_reducible assumption) | assumption)
                                      have q176 : (ji31) < (l0.length : Int) := of_decide_eq_true (by first | (with_reducible assumption) | assumption)
                                      obtain ⟨ad176, e176, hx176_0, hx176_1, hx176_2, hx176_3, hx176_4⟩ := at_T24 HR0.out (ji31) p176 q176
                                      have hw176_4 := hx176_4
                                      have hw176_3 := hx176_3
                                      have hw176_2 := hx176_2
                                      have hw176_1 := hx176_1
                                      have hw176_0 := hx176_0
                                      obtain rfl : ad171 = ad176 := (by injection e176)
                                      replace hx176_0 := (HB.out.cell (World.block_lt_of_cell? w _ hx176_0)).trans hx176_0
                                      replace hx176_1 := (HB.out.cell (World.block_lt_of_cell? w _ hx176_1)).trans hx176_1
                                      replace hx176_2 := (HB.out.cell (World.block_lt_of_cell? w _ hx176_2)).trans hx176_2
                                      replace hx176_3 := (HB.out.cell (World.block_lt_of_cell? w _ hx176_3)).trans hx176_3
                                      replace hx176_4 := (HB.out.cell (World.block_lt_of_cell? w _ hx176_4)).trans hx176_4
                                      replace p176 := eq_true p176
                                      replace q176 := eq_true q176
                                      refine start_ (n := 8) (S := fun w' => w'.cell? ⟨gb172, 0, none⟩ = some (.int .u8 ((rd_T24 l0 x6_2).f0)) ∧ w'.cell? ⟨gb172, 1, none⟩ = some (.int .u8 ((rd_T24 l0 x6_2).f1)) ∧ w'.cell? ⟨gb172, 2, none⟩ = some (.int .u8 ((rd_T24 l0 x6_2).f2)) ∧ w'.cell? ⟨gb172, 3, none⟩ = some (.int .i16 ((rd_T24 l0 x6_2).f3)) ∧ w'.cell? ⟨gb172, 4, none⟩ = some (.int .i32 ((rd_T24 l0 x6_2).f4)) ∧ w'.cell? (ad171.add (((ji31)).toNat * 5)) = some (.int .u8 ((rd_T24 l0 (ji31)).f0)) ∧ w'.cell? ⟨(ad171.add (((ji31)).toNat * 5)).block, (ad171.add (((ji31)).toNat * 5)).off + 1, none⟩ = some (.int .u8 ((rd_T24 l0 (ji31)).f1)) ∧ w'.cell? ⟨(ad171.add (((ji31)).toNat * 5)).block, (ad171.add (((ji31)).toNat * 5)).off + 2, none⟩ = some (.int .u8 ((rd_T24 l0 (ji31)).f2)) ∧ w'.cell? ⟨(ad171.add (((ji31)).toNat * 5)).block, (ad171.add (((ji31)).toNat * 5)).off + 3, none⟩ = some (.int .i16 ((rd_T24 l0 (ji31)).f3)) ∧ w'.cell? ⟨(ad171.add (((ji31)).toNat * 5)).block, (ad171.add (((ji31)).toNat * 5)).off + 4, none⟩ = some (.int .i32 ((rd_T24 l0 (ji31)).f4))) (ds := []) #[false, false, false, false, false, false, false, false] (by kernel_rfl) rfl rfl ⟨(blk_cell BK172.out 0).trans rfl, (blk_cell BK172.out 1).trans rfl, (blk_cell BK172.out 2).trans rfl, (blk_cell BK172.out 3).trans rfl, (blk_cell BK172.out 4).trans rfl, ((HB.out.cell (World.block_lt_of_cell? w _ hw176_0)).trans hw176_0), ((HB.out.cell (World.block_lt_of_cell? w _ hw176_1)).trans hw176_1), ((HB.out.cell (World.block_lt_of_cell? w _ hw176_2)).trans hw176_2), ((HB.out.cell (World.block_lt_of_cell? w _ hw176_3)).trans hw176_3), ((HB.out.cell (World.block_lt_of_cell? w _ hw176_4)).trans hw176_4)⟩ (fun hHeld => ?_); refine with_tabW halberdref03_Check.tab14 halberdref03_Check.bits14 (fun HT_ HW_ => ?_)
                                      generalize wc.drew = w47 at HO_5 BK172 HB hx176_0 hx176_1 hx176_2 hx176_3 hx176_4 hHeld ⊢
                                      refine pure_ (i := 1) (N := some 54) (v := ?_) (a' := ?_) #[false, true, false, false, false, false, false, false] rfl rfl (any_of HT_.out (by kernel_rfl)) (fun _ _ _ h => h) (Or.inl ⟨by rfl, ?_⟩) ?_ ?_
                                      rotate_left
                                      · intro w'
                                        go_simp
                                        with_reducible rfl
                                      rotate_left
                                      · simp only [Act.put, List.setIfInBounds_toArray, List.set_cons_zero, List.set_cons_succ, i64_w, i32_w]
                                        rfl
                                      refine pure_ (i := 2) (N := some 55) (v := ?_) (a' := ?_) #[false, true, true, false, false, false, false, false] rfl rfl (any_of HT_.out (by kernel_rfl)) (fun _ _ _ h => h) (Or.inl ⟨by rfl, ?_⟩) ?_ ?_
                                      rotate_left
                                      · intro w'
                                        go_simp
                                        with_reducible rfl
                                      rotate_left
                                      · simp only [Act.put, List.setIfInBounds_toArray, List.set_cons_zero, List.set_cons_succ, i64_w, i32_w]
                                        rfl
                                      refine pure_ (i := 3) (N := some 56) (v := ?_) (a' := ?_) #[false, true, true, true, false, false, false, false] rfl rfl (any_of HT_.out (by kernel_rfl)) (fun _ _ _ h => h) (Or.inl ⟨by rfl, ?_⟩) ?_ ?_
                                      rotate_left
                                      · intro w'
                                        go_simp
                                        with_reducible rfl
                                      rotate_left
                                      · simp only [Act.put, List.setIfInBounds_toArray, List.set_cons_zero, List.set_cons_succ, i64_w, i32_w]
                                        rfl
                                      refine pure_ (i := 4) (N := some 57) (v := ?_) (a' := ?_) #[false, true, true, true, true, false, false, false] rfl rfl (any_of HT_.out (by kernel_rfl)) (fun _ _ _ h => h) (Or.inl ⟨by rfl, ?_⟩) ?_ ?_
                                      rotate_left
                                      · intro w'
                                        go_simp
                                        with_reducible rfl
                                      rotate_left
                                      · simp only [Act.put, List.setIfInBounds_toArray, List.set_cons_zero, List.set_cons_succ, i64_w, i32_w]
                                        rfl
                                      refine take_ (i := 0) (N := some 53) (v := ?_) (a' := ?_) #[true, true, true, true, true, false, false, false] rfl rfl (take_ofW HT_.out HW_.out (by kernel_rfl)) (fun _ _ _ h => h) (Or.inl ⟨by rfl, ?_⟩) hHeld ?_ ?_
                                      rotate_left
                                      · rintro w' ⟨s0, s1, s2, s3, s4, s5, s6, s7, s8, s9⟩
                                        go_simp
                                        with_reducible rfl
                                      rotate_left
                                      · simp only [Act.put, List.setIfInBounds_toArray, List.set_cons_zero, List.set_cons_succ, i64_w, i32_w]
                                        rfl
                                      refine take_ (i := 5) (N := some 58) (v := ?_) (a' := ?_) #[true, true, true, true, true, true, false, false] rfl rfl (take_ofW HT_.out HW_.out (by kernel_rfl)) (fun _ _ _ h => h) (Or.inl ⟨by rfl, ?_⟩) hHeld ?_ ?_
                                      rotate_left
                                      · rintro w' ⟨s0, s1, s2, s3, s4, s5, s6, s7, s8, s9⟩
                                        go_simp
                                        with_reducible rfl
                                      rotate_left
                                      · simp only [Act.put, List.setIfInBounds_toArray, List.set_cons_zero, List.set_cons_succ, i64_w, i32_w]
                                        rfl
                                      refine one_ (i := 6) (N := some 59) #[true, true, true, true, true, true, true, false] rfl rfl (one_of HT_.out (by kernel_rfl)) (by decide) (fun K hK => ?_)
                                      refine goes_ Try.func43 (by kernel_rfl) rfl #[.agg #[.int .u8 ((rd_T24 l0 x6_2).f0), .int .u8 ((rd_T24 l0 x6_2).f1), .int .u8 ((rd_T24 l0 x6_2).f2), .int .i16 ((rd_T24 l0 x6_2).f3), .int .i32 ((rd_T24 l0 x6_2).f4)], .agg #[.int .u8 ((rd_T24 l0 (ji31)).f0), .int .u8 ((rd_T24 l0 (ji31)).f1), .int .u8 ((rd_T24 l0 (ji31)).f2), .int .i16 ((rd_T24 l0 (ji31)).f3), .int .i32 ((rd_T24 l0 (ji31)).f4)]] (by rfl) rfl rfl (by (try simp only [List.map_toArray, List.map_cons, List.map_nil]); first | done | (simp only [hji31]; rfl) | rfl | (simp only [List.length_drop, List.length_take]; rfl)) ?_
                                      with_reducible refine (halberdref02_Wide.calls kj24 ((rd_T24 l0 x6_2).f0) ((rd_T24 l0 x6_2).f1) ((rd_T24 l0 x6_2).f2) ((rd_T24 l0 x6_2).f3) ((rd_T24 l0 x6_2).f4) ((rd_T24 l0 (ji31)).f0) ((rd_T24 l0 (ji31)).f1) ((rd_T24 l0 (ji31)).f2) ((rd_T24 l0 (ji31)).f3) ((rd_T24 l0 (ji31)).f4) t177 _ A34.out).mono ?_
                                      rintro e w48 ⟨rfl, hb⟩
                                      refine ⟨_, rfl, ?_⟩
                                      have n0_ := Aside0.mk (Kd.R_below (by (with_reducible repeat (first | apply Kd.R_alloc | apply Kd.R_drewN | apply Kd.R_drew)); exact HO_5.out) hb)
                                      have n1_ := Aside0.mk (blk_below (g := gb172) (o := .cells #[.int .u8 ((rd_T24 l0 x6_2).f0), .int .u8 ((rd_T24 l0 x6_2).f1), .int .u8 ((rd_T24 l0 x6_2).f2), .int .i16 ((rd_T24 l0 x6_2).f3), .int .i32 ((rd_T24 l0 x6_2).f4)] 24 (0, 0)) (by (with_reducible repeat (first | refine blk_drewN ?_ _ | refine blk_drew ?_ | refine blk_alloc ?_ _)); exact BK172.out) hb)
                                      have n2_ := Aside0.mk (below_step (by repeat (first | (with_reducible first | exact HB.out | apply below_alloc | apply pw_below_drewN | apply below_drew1 | refine below_set ?_ GE172.out) | exact HB.out)) hb)
                                      clear HO_5
                                      clear BK172
                                      clear HB
                                      have HO_5 := n0_
                                      have BK172 := n1_
                                      have HB := n2_
                                      clear n0_ n1_ n2_
                                      (try clear hb)
                                      (try clear hb2)
                                      (try clear hk)
                                      (try clear hi)
                                      refine hK.out _ _ ⟨(blk_cell BK172.out 0).trans rfl, (blk_cell BK172.out 1).trans rfl, (blk_cell BK172.out 2).trans rfl, (blk_cell BK172.out 3).trans rfl, (blk_cell BK172.out 4).trans rfl, ((HB.out.cell (World.block_lt_of_cell? w _ hw176_0)).trans hw176_0), ((HB.out.cell (World.block_lt_of_cell? w _ hw176_1)).trans hw176_1), ((HB.out.cell (World.block_lt_of_cell? w _ hw176_2)).trans hw176_2), ((HB.out.cell (World.block_lt_of_cell? w _ hw176_3)).trans hw176_3), ((HB.out.cell (World.block_lt_of_cell? w _ hw176_4)).trans hw176_4)⟩ (fun hHeld => ?_)
                                      clear hK K
                                      refine norm_ (a' := ?_) ?_ ?_
                                      rotate_left
                                      · show Act.put _ (some 59) _ = _
                                        simp only [Act.put, List.setIfInBounds_toArray, List.set_cons_zero, List.set_cons_succ, i64_w, i32_w]
                                        rfl
                                      refine pure_ (i := 7) (N := some 8) (v := ?_) (a' := ?_) #[true, true, true, true, true, true, true, true] rfl rfl (any_of HT_.out (by kernel_rfl)) (fun _ _ _ h => h) (Or.inl ⟨by rfl, ?_⟩) ?_ ?_
                                      rotate_left
                                      · intro w'
                                        go_simp
                                        with_reducible rfl
                                      rotate_left
                                      · simp only [Act.put, List.setIfInBounds_toArray, List.set_cons_zero, List.set_cons_succ, i64_w, i32_w]
                                        rfl
                                      refine done_ (done_of HT_.out (by kernel_rfl)) ?_
                                      have hcz49_0 : w48.cell? ⟨gb172, 0, none⟩ = some (.int .u8 ((rd_T24 l0 x6_2).f0)) := (blk_cell BK172.out 0).trans rfl
                                      have hcz49_1 : w48.cell? ⟨gb172, 1, none⟩ = some (.int .u8 ((rd_T24 l0 x6_2).f1)) := (blk_cell BK172.out 1).trans rfl
                                      have hcz49_2 : w48.cell? ⟨gb172, 2, none⟩ = some (.int .u8 ((rd_T24 l0 x6_2).f2)) := (blk_cell BK172.out 2).trans rfl
                                      have hcz49_3 : w48.cell? ⟨gb172, 3, none⟩ = some (.int .i16 ((rd_T24 l0 x6_2).f3)) := (blk_cell BK172.out 3).trans rfl
                                      have hcz49_4 : w48.cell? ⟨gb172, 4, none⟩ = some (.int .i32 ((rd_T24 l0 x6_2).f4)) := (blk_cell BK172.out 4).trans rfl
                                      have hfz49_0 := blk_frozen BK172.out 0
                                      have hfz49_1 := blk_frozen BK172.out 1
                                      have hfz49_2 := blk_frozen BK172.out 2
                                      have hfz49_3 := blk_frozen BK172.out 3
                                      have hfz49_4 := blk_frozen BK172.out 4
                                      try go_wp2
                                      go_meet
                                      case rel => exact ⟨_, H', ⟨by have := HJ2.out; have := HK2.out; have := HJ24.out; first | omega | exact Nat.le_refl _⟩, ⟨by (with_reducible repeat (first | apply Kd.R_alloc | apply Kd.R_drewN | apply Kd.R_drew)); exact HO_5.out⟩, ⟨by (with_reducible repeat (first | refine blk_drewN ?_ _ | refine blk_drew ?_ | refine blk_alloc ?_ _)); exact BK172.out⟩, ⟨by repeat (first | (with_reducible first | exact HB.out | apply below_alloc | apply pw_below_drewN | apply below_drew1 | refine below_set ?_ GE172.out) | exact HB.out)⟩⟩
                                  · rw [if_neg c33] at H
                                    exact absurd H (by simp)
                                · rw [if_neg c32] at H
                                  exact absurd H (by simp)
                        · rw [if_neg c24] at H
                          have c24b0 : (((rd_T24 l0 x6_2).f0) == 24) = false := beq_eq_false_iff_ne.mpr c24
                          have c24b1 : (((rd_T24 l0 x6_2).f0) != 24) = true := bne_iff_ne.mpr c24
                          (first | rw [c24b0] | (simp only [i64_w, i32_w]; rw [c24b0]) | skip)
                          have H' := Aside0.mk H
                          clear H
                          go_wp2
                          go_meet
                          case rel => exact ⟨_, H', ⟨by have := HJ2.out; have := HK2.out; first | omega | exact Nat.le_refl _⟩, ⟨by (with_reducible repeat (first | apply Kd.R_alloc | apply Kd.R_drewN | apply Kd.R_drew)); exact HO_5.out⟩, ⟨by (with_reducible repeat (first | refine blk_drewN ?_ _ | refine blk_drew ?_ | refine blk_alloc ?_ _)); exact BK172.out⟩, ⟨by repeat (first | (with_reducible first | exact HB.out | apply below_alloc | apply pw_below_drewN | apply below_drew1 | refine below_set ?_ GE172.out) | exact HB.out)⟩⟩
                      case rest =>
                        clear HC18
                        try clear p1
                        try clear q1
                        try clear hx1
                        try clear c2
                        try clear p2
                        try clear c3
                        try clear c4
                        try clear p6
                        try clear p17
                        try clear q17
                        try clear hx17
                        try clear c24
                        try clear c24b0
                        try clear c24b1
                        try clear c30
                        try clear c32
                        try clear c32b0
                        try clear c33
                        try clear c33b0
                        try clear c35
                        try clear c35b0
                        try clear c35b1
                        try clear c36
                        try clear c36b0
                        try clear c40
                        try clear c40b0
                        try clear c43
                        try clear hcz39_0
                        try clear hcz39_1
                        try clear hcz39_2
                        try clear hcz39_3
                        try clear hcz39_4
                        try clear hcz43_0
                        try clear hcz43_1
                        try clear hcz43_2
                        try clear hcz43_3
                        try clear hcz43_4
                        try clear hcz46_0
                        try clear hcz46_1
                        try clear hcz46_2
                        try clear hcz46_3
                        try clear hcz46_4
                        try clear hcz49_0
                        try clear hcz49_1
                        try clear hcz49_2
                        try clear hcz49_3
                        try clear hcz49_4
                        try clear hfz23_1
                        try clear hfz23_2
                        try clear hfz23_3
                        try clear hfz23_4
                        try clear hfz39_0
                        try clear hfz39_1
                        try clear hfz39_2
                        try clear hfz39_3
                        try clear hfz39_4
                        try clear hfz43_0
                        try clear hfz43_1
                        try clear hfz43_2
                        try clear hfz43_3
                        try clear hfz43_4
                        try clear hfz46_0
                        try clear hfz46_1
                        try clear hfz46_2
                        try clear hfz46_3
                        try clear hfz46_4
                        try clear hfz49_0
                        try clear hfz49_1
                        try clear hfz49_2
                        try clear hfz49_3
                        try clear hfz49_4
                        try clear hx171_0
                        try clear hx171_1
                        try clear hx171_2
                        try clear hx171_3
                        try clear hx171_4
                        try clear hx173_0
                        try clear hx175_0
                        try clear hx176_0
                        try clear hx176_1
                        try clear hx176_2
                        try clear hx176_3
                        try clear hx176_4
                        try clear p171
                        try clear p173
                        try clear p175
                        try clear p176
                        try clear p2
                        try clear q171
                        try clear q173
                        try clear q175
                        try clear q176
                        obtain ⟨kq, HA, HJ17, HO_5, BK172, HB⟩ := hcut
                        cases kq with
                        | zero => exact absurd HA.out (by simp [halberdref03_Check.j3])
                        | succ kj17 =>
                          have H := HA.out
                          clear HA
                          simp only [halberdref03_Check.j3] at H
                          replace H := Option.bind_eq_some_iff.mp H
                          obtain ⟨t178, A500, H⟩ := H
                          replace H : (if t178 = true then (if ((rd_T24 l0 x6_2).f3) < 0 then (some false) else (if (wrap64 ((wrap64 (x6_2 + 1)) + (wrap64 (((rd_T24 l0 x6_2).f3))))) ≥ (l0.length : Int) then (some false) else (if 0 ≤ (wrap64 ((wrap64 (x6_2 + 1)) + (wrap64 (((rd_T24 l0 x6_2).f3))))) then (if (wrap64 ((wrap64 (x6_2 + 1)) + (wrap64 (((rd_T24 l0 x6_2).f3))))) < (t167.length : Int) then (if rdOf false t167 (wrap64 ((wrap64 (x6_2 + 1)) + (wrap64 (((rd_T24 l0 x6_2).f3))))) = true then (some false) else (halberdref03_Check.l0 kj17 l0 a1 t167 (wrap64 (x6_2 + 1)))) else (none)) else (none)))) else (halberdref03_Check.l0 kj17 l0 a1 t167 (wrap64 (x6_2 + 1)))) = some r := H
                          have A50 := Aside0.mk A500
                          clear A500
                          by_cases c51 : t178 = true
                          · subst c51
                            have H1 : (if ((rd_T24 l0 x6_2).f3) < 0 then (some false) else (if (wrap64 ((wrap64 (x6_2 + 1)) + (wrap64 (((rd_T24 l0 x6_2).f3))))) ≥ (l0.length : Int) then (some false) else (if 0 ≤ (wrap64 ((wrap64 (x6_2 + 1)) + (wrap64 (((rd_T24 l0 x6_2).f3))))) then (if (wrap64 ((wrap64 (x6_2 + 1)) + (wrap64 (((rd_T24 l0 x6_2).f3))))) < (t167.length : Int) then (if rdOf false t167 (wrap64 ((wrap64 (x6_2 + 1)) + (wrap64 (((rd_T24 l0 x6_2).f3))))) = true then (some false) else (halberdref03_Check.l0 kj17 l0 a1 t167 (wrap64 (x6_2 + 1)))) else (none)) else (none)))) = some r := by rw [if_pos rfl] at H; exact H
                            clear H
                            have H := H1
                            clear H1
                            by_cases c52 : ((rd_T24 l0 x6_2).f3) < 0
                            · rw [if_pos c52] at H
                              have c52b0 : decide (((rd_T24 l0 x6_2).f3) < 0) = true := decide_eq_true c52
                              clear c52
                              obtain rfl := Option.some.inj H
                              have hcz53_0 : wc.cell? ⟨gb172, 0, none⟩ = some (.int .u8 ((rd_T24 l0 x6_2).f0)) := (blk_cell BK172.out 0).trans rfl
                              have hcz53_1 : wc.cell? ⟨gb172, 1, none⟩ = some (.int .u8 ((rd_T24 l0 x6_2).f1)) := (blk_cell BK172.out 1).trans rfl
                              have hcz53_2 : wc.cell? ⟨gb172, 2, none⟩ = some (.int .u8 ((rd_T24 l0 x6_2).f2)) := (blk_cell BK172.out 2).trans rfl
                              have hcz53_3 : wc.cell? ⟨gb172, 3, none⟩ = some (.int .i16 ((rd_T24 l0 x6_2).f3)) := (blk_cell BK172.out 3).trans rfl
                              have hcz53_4 : wc.cell? ⟨gb172, 4, none⟩ = some (.int .i32 ((rd_T24 l0 x6_2).f4)) := (blk_cell BK172.out 4).trans rfl
                              have hfz53_0 := blk_frozen BK172.out 0
                              have hfz53_1 := blk_frozen BK172.out 1
                              have hfz53_2 := blk_frozen BK172.out 2
                              have hfz53_3 := blk_frozen BK172.out 3
                              have hfz53_4 := blk_frozen BK172.out 4
                              go_wp2_with (first | ((with_reducible refine gate_callee (f := 15) rfl ?_); refine goesL_ (some 74) rfl rfl Try.func15 (by kernel_rfl) rfl #[.agg #[.int .u8 ((rd_T24 l0 x6_2).f0), .int .u8 ((rd_T24 l0 x6_2).f1), .int .u8 ((rd_T24 l0 x6_2).f2), .int .i16 ((rd_T24 l0 x6_2).f3), .int .i32 ((rd_T24 l0 x6_2).f4)]] rfl (by (try simp only [List.map_toArray, List.map_cons, List.map_nil]); first | done | rfl | (simp only [List.length_drop, List.length_take]; rfl)) ?_; (with_reducible refine (halberdref03_Jump.calls ((rd_T24 l0 x6_2).f0) ((rd_T24 l0 x6_2).f1) ((rd_T24 l0 x6_2).f2) ((rd_T24 l0 x6_2).f3) ((rd_T24 l0 x6_2).f4) true _ A50.out).mono ?_); rintro e w54 ⟨rfl, hb⟩; refine ⟨_, rfl, ?_⟩; have n0_ := Aside0.mk (Kd.R_below (by (with_reducible repeat (first | apply Kd.R_alloc | apply Kd.R_drewN | apply Kd.R_drew)); exact HO_5.out) hb); have n1_ := Aside0.mk (blk_below (g := gb172) (o := .cells #[.int .u8 ((rd_T24 l0 x6_2).f0), .int .u8 ((rd_T24 l0 x6_2).f1), .int .u8 ((rd_T24 l0 x6_2).f2), .int .i16 ((rd_T24 l0 x6_2).f3), .int .i32 ((rd_T24 l0 x6_2).f4)] 24 (0, 0)) (by (with_reducible repeat (first | refine blk_drewN ?_ _ | refine blk_drew ?_ | refine blk_alloc ?_ _)); exact BK172.out) hb); have n2_ := Aside0.mk (below_step (by repeat (first | (with_reducible first | exact HB.out | apply below_alloc | apply pw_below_drewN | apply below_drew1 | refine below_set ?_ GE172.out) | exact HB.out)) hb); clear HO_5; clear BK172; clear HB; have HO_5 := n0_; have BK172 := n1_; have HB := n2_; clear n0_ n1_ n2_; (try clear hb); (try clear hb2); (try clear hk); (try clear hi); have hcz55_0 : w54.cell? ⟨gb172, 0, none⟩ = some (.int .u8 ((rd_T24 l0 x6_2).f0)) := (blk_cell BK172.out 0).trans rfl; have hcz55_1 : w54.cell? ⟨gb172, 1, none⟩ = some (.int .u8 ((rd_T24 l0 x6_2).f1)) := (blk_cell BK172.out 1).trans rfl; have hcz55_2 : w54.cell? ⟨gb172, 2, none⟩ = some (.int .u8 ((rd_T24 l0 x6_2).f2)) := (blk_cell BK172.out 2).trans rfl; have hcz55_3 : w54.cell? ⟨gb172, 3, none⟩ = some (.int .i16 ((rd_T24 l0 x6_2).f3)) := (blk_cell BK172.out 3).trans rfl; have hcz55_4 : w54.cell? ⟨gb172, 4, none⟩ = some (.int .i32 ((rd_T24 l0 x6_2).f4)) := (blk_cell BK172.out 4).trans rfl; have hfz55_0 := blk_frozen BK172.out 0; have hfz55_1 := blk_frozen BK172.out 1; have hfz55_2 := blk_frozen BK172.out 2; have hfz55_3 := blk_frozen BK172.out 3; have hfz55_4 := blk_frozen BK172.out 4))
                              go_ret
                              exact ⟨by first | rfl | (simp [errW_none, errW_some] <;> rfl) | (simp [*, errW_none, errW_some] <;> rfl), by repeat (first | (with_reducible first | exact HB.out | apply below_alloc | apply pw_below_drewN | apply below_drew1 | refine below_set ?_ GE172.out) | exact HB.out)⟩
                            · rw [if_neg c52] at H
                              have c52b0 : decide (((rd_T24 l0 x6_2).f3) < 0) = false := decide_eq_false c52
                              clear c52
                              by_cases c56 : (wrap64 ((wrap64 (x6_2 + 1)) + (wrap64 (((rd_T24 l0 x6_2).f3))))) ≥ (l0.length : Int)
                              · rw [if_pos c56] at H
                                have c56b0 : decide ((l0.length : Int) ≤ (wrap64 ((wrap64 (x6_2 + 1)) + (wrap64 (((rd_T24 l0 x6_2).f3)))))) = true := decide_eq_true c56
                                clear c56
                                obtain rfl := Option.some.inj H
                                have hcz57_0 : wc.cell? ⟨gb172, 0, none⟩ = some (.int .u8 ((rd_T24 l0 x6_2).f0)) := (blk_cell BK172.out 0).trans rfl
                                have hcz57_1 : wc.cell? ⟨gb172, 1, none⟩ = some (.int .u8 ((rd_T24 l0 x6_2).f1)) := (blk_cell BK172.out 1).trans rfl
                                have hcz57_2 : wc.cell? ⟨gb172, 2, none⟩ = some (.int .u8 ((rd_T24 l0 x6_2).f2)) := (blk_cell BK172.out 2).trans rfl
                                have hcz57_3 : wc.cell? ⟨gb172, 3, none⟩ = some (.int .i16 ((rd_T24 l0 x6_2).f3)) := (blk_cell BK172.out 3).trans rfl
                                have hcz57_4 : wc.cell? ⟨gb172, 4, none⟩ = some (.int .i32 ((rd_T24 l0 x6_2).f4)) := (blk_cell BK172.out 4).trans rfl
                                have hfz57_0 := blk_frozen BK172.out 0
                                have hfz57_1 := blk_frozen BK172.out 1
                                have hfz57_2 := blk_frozen BK172.out 2
                                have hfz57_3 := blk_frozen BK172.out 3
                                have hfz57_4 := blk_frozen BK172.out 4
                                go_wp2_with (first | ((with_reducible refine gate_callee (f := 15) rfl ?_); refine goesL_ (some 74) rfl rfl Try.func15 (by kernel_rfl) rfl #[.agg #[.int .u8 ((rd_T24 l0 x6_2).f0), .int .u8 ((rd_T24 l0 x6_2).f1), .int .u8 ((rd_T24 l0 x6_2).f2), .int .i16 ((rd_T24 l0 x6_2).f3), .int .i32 ((rd_T24 l0 x6_2).f4)]] rfl (by (try simp only [List.map_toArray, List.map_cons, List.map_nil]); first | done | rfl | (simp only [List.length_drop, List.length_take]; rfl)) ?_; (with_reducible refine (halberdref03_Jump.calls ((rd_T24 l0 x6_2).f0) ((rd_T24 l0 x6_2).f1) ((rd_T24 l0 x6_2).f2) ((rd_T24 l0 x6_2).f3) ((rd_T24 l0 x6_2).f4) true _ A50.out).mono ?_); rintro e w58 ⟨rfl, hb⟩; refine ⟨_, rfl, ?_⟩; have n0_ := Aside0.mk (Kd.R_below (by (with_reducible repeat (first | apply Kd.R_alloc | apply Kd.R_drewN | apply Kd.R_drew)); exact HO_5.out) hb); have n1_ := Aside0.mk (blk_below (g := gb172) (o := .cells #[.int .u8 ((rd_T24 l0 x6_2).f0), .int .u8 ((rd_T24 l0 x6_2).f1), .int .u8 ((rd_T24 l0 x6_2).f2), .int .i16 ((rd_T24 l0 x6_2).f3), .int .i32 ((rd_T24 l0 x6_2).f4)] 24 (0, 0)) (by (with_reducible repeat (first | refine blk_drewN ?_ _ | refine blk_drew ?_ | refine blk_alloc ?_ _)); exact BK172.out) hb); have n2_ := Aside0.mk (below_step (by repeat (first | (with_reducible first | exact HB.out | apply below_alloc | apply pw_below_drewN | apply below_drew1 | refine below_set ?_ GE172.out) | exact HB.out)) hb); clear HO_5; clear BK172; clear HB; have HO_5 := n0_; have BK172 := n1_; have HB := n2_; clear n0_ n1_ n2_; (try clear hb); (try clear hb2); (try clear hk); (try clear hi); have hcz59_0 : w58.cell? ⟨gb172, 0, none⟩ = some (.int .u8 ((rd_T24 l0 x6_2).f0)) := (blk_cell BK172.out 0).trans rfl; have hcz59_1 : w58.cell? ⟨gb172, 1, none⟩ = some (.int .u8 ((rd_T24 l0 x6_2).f1)) := (blk_cell BK172.out 1).trans rfl; have hcz59_2 : w58.cell? ⟨gb172, 2, none⟩ = some (.int .u8 ((rd_T24 l0 x6_2).f2)) := (blk_cell BK172.out 2).trans rfl; have hcz59_3 : w58.cell? ⟨gb172, 3, none⟩ = some (.int .i16 ((rd_T24 l0 x6_2).f3)) := (blk_cell BK172.out 3).trans rfl; have hcz59_4 : w58.cell? ⟨gb172, 4, none⟩ = some (.int .i32 ((rd_T24 l0 x6_2).f4)) := (blk_cell BK172.out 4).trans rfl; have hfz59_0 := blk_frozen BK172.out 0; have hfz59_1 := blk_frozen BK172.out 1; have hfz59_2 := blk_frozen BK172.out 2; have hfz59_3 := blk_frozen BK172.out 3; have hfz59_4 := blk_frozen BK172.out 4))
                                go_ret
                                exact ⟨by first | rfl | (simp [errW_none, errW_some] <;> rfl) | (simp [*, errW_none, errW_some] <;> rfl), by repeat (first | (with_reducible first | exact HB.out | apply below_alloc | apply pw_below_drewN | apply below_drew1 | refine below_set ?_ GE172.out) | exact HB.out)⟩
                              · rw [if_neg c56] at H
                                have c56b0 : decide ((l0.length : Int) ≤ (wrap64 ((wrap64 (x6_2 + 1)) + (wrap64 (((rd_T24 l0 x6_2).f3)))))) = false := decide_eq_false c56
                                clear c56
                                obtain ⟨ji60, hji60⟩ : ∃ j_ : Int, (wrap64 ((wrap64 (x6_2 + 1)) + (wrap64 (((rd_T24 l0 x6_2).f3))))) = j_ := ⟨_, rfl⟩
                                replace H : (if 0 ≤ (ji60) then (if (ji60) < (t167.length : Int) then (if rdOf false t167 (ji60) = true then (some false) else (halberdref03_Check.l0 kj17 l0 a1 t167 (wrap64 (x6_2 + 1)))) else (none)) else (none)) = some r := by first | (rw [hji60] at H; exact H) | (simp only [hji60] at H ⊢; exact H)
                                (try rw [hji60] at c56b0)
                                (try rw [hji60] at A50)
                                have hji60w : (IntKind.i64.wrap ((wrap64 (x6_2 + 1)) + (wrap64 (((rd_T24 l0 x6_2).f3))))) = ji60 := (i64_w _).trans hji60
                                by_cases c61 : 0 ≤ (ji60)
                                · rw [if_pos c61] at H
                                  have c61b0 : decide (0 ≤ (ji60)) = true := decide_eq_true c61
                                  clear c61
                                  by_cases c62 : (ji60) < (t167.length : Int)
                                  · rw [if_pos c62] at H
                                    have c62b0 : decide ((ji60) < (t167.length : Int)) = true := decide_eq_true c62
                                    clear c62
                                    obtain ⟨bq63, hbq63⟩ : ∃ b_ : Bool, b_ = (rdOf false t167 (ji60)) := ⟨_, rfl⟩
                                    replace H : (if bq63 = true then (some false) else (halberdref03_Check.l0 kj17 l0 a1 t167 (wrap64 (x6_2 + 1)))) = some r := by rw [← hbq63] at H; exact H
                                    have Nbq63 := Aside0.mk hbq63
                                    clear hbq63
                                    by_cases c64 : bq63 = true
                                    · subst c64
                                      have H1 : (some false) = some r := by rw [if_pos rfl] at H; exact H
                                      clear H
                                      have H := H1
                                      clear H1
                                      obtain rfl := Option.some.inj H
                                      have hcz65_0 : wc.cell? ⟨gb172, 0, none⟩ = some (.int .u8 ((rd_T24 l0 x6_2).f0)) := (blk_cell BK172.out 0).trans rfl
                                      have hcz65_1 : wc.cell? ⟨gb172, 1, none⟩ = some (.int .u8 ((rd_T24 l0 x6_2).f1)) := (blk_cell BK172.out 1).trans rfl
                                      have hcz65_2 : wc.cell? ⟨gb172, 2, none⟩ = some (.int .u8 ((rd_T24 l0 x6_2).f2)) := (blk_cell BK172.out 2).trans rfl
                                      have hcz65_3 : wc.cell? ⟨gb172, 3, none⟩ = some (.int .i16 ((rd_T24 l0 x6_2).f3)) := (blk_cell BK172.out 3).trans rfl
                                      have hcz65_4 : wc.cell? ⟨gb172, 4, none⟩ = some (.int .i32 ((rd_T24 l0 x6_2).f4)) := (blk_cell BK172.out 4).trans rfl
                                      have hfz65_0 := blk_frozen BK172.out 0
                                      have hfz65_1 := blk_frozen BK172.out 1
                                      have hfz65_2 := blk_frozen BK172.out 2
                                      have hfz65_3 := blk_frozen BK172.out 3
                                      have hfz65_4 := blk_frozen BK172.out 4
                                      go_wp2_with (first | ((with_reducible refine gate_callee (f := 15) rfl ?_); refine goesL_ (some 74) rfl rfl Try.func15 (by kernel_rfl) rfl #[.agg #[.int .u8 ((rd_T24 l0 x6_2).f0), .int .u8 ((rd_T24 l0 x6_2).f1), .int .u8 ((rd_T24 l0 x6_2).f2), .int .i16 ((rd_T24 l0 x6_2).f3), .int .i32 ((rd_T24 l0 x6_2).f4)]] rfl (by (try simp only [List.map_toArray, List.map_cons, List.map_nil]); first | done | rfl | (simp only [List.length_drop, List.length_take]; rfl)) ?_; (with_reducible refine (halberdref03_Jump.calls ((rd_T24 l0 x6_2).f0) ((rd_T24 l0 x6_2).f1) ((rd_T24 l0 x6_2).f2) ((rd_T24 l0 x6_2).f3) ((rd_T24 l0 x6_2).f4) true _ A50.out).mono ?_); rintro e w66 ⟨rfl, hb⟩; refine ⟨_, rfl, ?_⟩; have n0_ := Aside0.mk (Kd.R_below (by (with_reducible repeat (first | apply Kd.R_alloc | apply Kd.R_drewN | apply Kd.R_drew)); exact HO_5.out) hb); have n1_ := Aside0.mk (blk_below (g := gb172) (o := .cells #[.int .u8 ((rd_T24 l0 x6_2).f0), .int .u8 ((rd_T24 l0 x6_2).f1), .int .u8 ((rd_T24 l0 x6_2).f2), .int .i16 ((rd_T24 l0 x6_2).f3), .int .i32 ((rd_T24 l0 x6_2).f4)] 24 (0, 0)) (by (with_reducible repeat (first | refine blk_drewN ?_ _ | refine blk_drew ?_ | refine blk_alloc ?_ _)); exact BK172.out) hb); have n2_ := Aside0.mk (below_step (by repeat (first | (with_reducible first | exact HB.out | apply below_alloc | apply pw_below_drewN | apply below_drew1 | refine below_set ?_ GE172.out) | exact HB.out)) hb); clear HO_5; clear BK172; clear HB; have HO_5 := n0_; have BK172 := n1_; have HB := n2_; clear n0_ n1_ n2_; (try clear hb); (try clear hb2); (try clear hk); (try clear hi); have hcz67_0 : w66.cell? ⟨gb172, 0, none⟩ = some (.int .u8 ((rd_T24 l0 x6_2).f0)) := (blk_cell BK172.out 0).trans rfl; have hcz67_1 : w66.cell? ⟨gb172, 1, none⟩ = some (.int .u8 ((rd_T24 l0 x6_2).f1)) := (blk_cell BK172.out 1).trans rfl; have hcz67_2 : w66.cell? ⟨gb172, 2, none⟩ = some (.int .u8 ((rd_T24 l0 x6_2).f2)) := (blk_cell BK172.out 2).trans rfl; have hcz67_3 : w66.cell? ⟨gb172, 3, none⟩ = some (.int .i16 ((rd_T24 l0 x6_2).f3)) := (blk_cell BK172.out 3).trans rfl; have hcz67_4 : w66.cell? ⟨gb172, 4, none⟩ = some (.int .i32 ((rd_T24 l0 x6_2).f4)) := (blk_cell BK172.out 4).trans rfl; have hfz67_0 := blk_frozen BK172.out 0; have hfz67_1 := blk_frozen BK172.out 1; have hfz67_2 := blk_frozen BK172.out 2; have hfz67_3 := blk_frozen BK172.out 3; have hfz67_4 := blk_frozen BK172.out 4; have p179 : 0 ≤ ((ji60) : Int) := of_decide_eq_true (by first | (with_reducible assumption) | assumption); have q179 : (ji60) < (t167.length : Int) := of_decide_eq_true (by first | (with_reducible assumption) | assumption); obtain ⟨ad179, e179, hx179_0⟩ := Kd.at_bool (Kd.R_reads' HO_5.out).2.2 (ji60) p179 q179; (try rw [← Nbq11.out] at hx179_0); (try rw [← Nbq63.out] at hx179_0); obtain rfl : ad173 = ad179 := (by injection e179); replace p179 := eq_true p179; replace q179 := eq_true q179))
                                      go_ret
                                      exact ⟨by first | rfl | (simp [errW_none, errW_some] <;> rfl) | (simp only [← hji60]; first | rfl | (simp [errW_none, errW_some] <;> rfl)) | (simp [*, errW_none, errW_some] <;> rfl), by repeat (first | (with_reducible first | exact HB.out | apply below_alloc | apply pw_below_drewN | apply below_drew1 | refine below_set ?_ GE172.out) | exact HB.out)⟩
                                    · replace c64 := Bool.eq_false_iff.mpr c64
                                      subst c64
                                      have H1 : (halberdref03_Check.l0 kj17 l0 a1 t167 (wrap64 (x6_2 + 1))) = some r := by rw [if_neg (show ¬ (false = true) by decide)] at H; exact H
                                      clear H
                                      have H := H1
                                      clear H1
                                      have H' := Aside0.mk H
                                      clear H
                                      have hcz68_0 : wc.cell? ⟨gb172, 0, none⟩ = some (.int .u8 ((rd_T24 l0 x6_2).f0)) := (blk_cell BK172.out 0).trans rfl
                                      have hcz68_1 : wc.cell? ⟨gb172, 1, none⟩ = some (.int .u8 ((rd_T24 l0 x6_2).f1)) := (blk_cell BK172.out 1).trans rfl
                                      have hcz68_2 : wc.cell? ⟨gb172, 2, none⟩ = some (.int .u8 ((rd_T24 l0 x6_2).f2)) := (blk_cell BK172.out 2).trans rfl
                                      have hcz68_3 : wc.cell? ⟨gb172, 3, none⟩ = some (.int .i16 ((rd_T24 l0 x6_2).f3)) := (blk_cell BK172.out 3).trans rfl
                                      have hcz68_4 : wc.cell? ⟨gb172, 4, none⟩ = some (.int .i32 ((rd_T24 l0 x6_2).f4)) := (blk_cell BK172.out 4).trans rfl
                                      have hfz68_0 := blk_frozen BK172.out 0
                                      have hfz68_1 := blk_frozen BK172.out 1
                                      have hfz68_2 := blk_frozen BK172.out 2
                                      have hfz68_3 := blk_frozen BK172.out 3
                                      have hfz68_4 := blk_frozen BK172.out 4
                                      go_wp2_with (first | ((with_reducible refine gate_callee (f := 15) rfl ?_); refine goesL_ (some 74) rfl rfl Try.func15 (by kernel_rfl) rfl #[.agg #[.int .u8 ((rd_T24 l0 x6_2).f0), .int .u8 ((rd_T24 l0 x6_2).f1), .int .u8 ((rd_T24 l0 x6_2).f2), .int .i16 ((rd_T24 l0 x6_2).f3), .int .i32 ((rd_T24 l0 x6_2).f4)]] rfl (by (try simp only [List.map_toArray, List.map_cons, List.map_nil]); first | done | rfl | (simp only [List.length_drop, List.length_take]; rfl)) ?_; (with_reducible refine (halberdref03_Jump.calls ((rd_T24 l0 x6_2).f0) ((rd_T24 l0 x6_2).f1) ((rd_T24 l0 x6_2).f2) ((rd_T24 l0 x6_2).f3) ((rd_T24 l0 x6_2).f4) true _ A50.out).mono ?_); rintro e w69 ⟨rfl, hb⟩; refine ⟨_, rfl, ?_⟩; have n0_ := Aside0.mk (Kd.R_below (by (with_reducible repeat (first | apply Kd.R_alloc | apply Kd.R_drewN | apply Kd.R_drew)); exact HO_5.out) hb); have n1_ := Aside0.mk (blk_below (g := gb172) (o := .cells #[.int .u8 ((rd_T24 l0 x6_2).f0), .int .u8 ((rd_T24 l0 x6_2).f1), .int .u8 ((rd_T24 l0 x6_2).f2), .int .i16 ((rd_T24 l0 x6_2).f3), .int .i32 ((rd_T24 l0 x6_2).f4)] 24 (0, 0)) (by (with_reducible repeat (first | refine blk_drewN ?_ _ | refine blk_drew ?_ | refine blk_alloc ?_ _)); exact BK172.out) hb); have n2_ := Aside0.mk (below_step (by repeat (first | (with_reducible first | exact HB.out | apply below_alloc | apply pw_below_drewN | apply below_drew1 | refine below_set ?_ GE172.out) | exact HB.out)) hb); clear HO_5; clear BK172; clear HB; have HO_5 := n0_; have BK172 := n1_; have HB := n2_; clear n0_ n1_ n2_; (try clear hb); (try clear hb2); (try clear hk); (try clear hi); have hcz70_0 : w69.cell? ⟨gb172, 0, none⟩ = some (.int .u8 ((rd_T24 l0 x6_2).f0)) := (blk_cell BK172.out 0).trans rfl; have hcz70_1 : w69.cell? ⟨gb172, 1, none⟩ = some (.int .u8 ((rd_T24 l0 x6_2).f1)) := (blk_cell BK172.out 1).trans rfl; have hcz70_2 : w69.cell? ⟨gb172, 2, none⟩ = some (.int .u8 ((rd_T24 l0 x6_2).f2)) := (blk_cell BK172.out 2).trans rfl; have hcz70_3 : w69.cell? ⟨gb172, 3, none⟩ = some (.int .i16 ((rd_T24 l0 x6_2).f3)) := (blk_cell BK172.out 3).trans rfl; have hcz70_4 : w69.cell? ⟨gb172, 4, none⟩ = some (.int .i32 ((rd_T24 l0 x6_2).f4)) := (blk_cell BK172.out 4).trans rfl; have hfz70_0 := blk_frozen BK172.out 0; have hfz70_1 := blk_frozen BK172.out 1; have hfz70_2 := blk_frozen BK172.out 2; have hfz70_3 := blk_frozen BK172.out 3; have hfz70_4 := blk_frozen BK172.out 4; have p179 : 0 ≤ ((ji60) : Int) := of_decide_eq_true (by first | (with_reducible assumption) | assumption); have q179 : (ji60) < (t167.length : Int) := of_decide_eq_true (by first | (with_reducible assumption) | assumption); obtain ⟨ad179, e179, hx179_0⟩ := Kd.at_bool (Kd.R_reads' HO_5.out).2.2 (ji60) p179 q179; (try rw [← Nbq11.out] at hx179_0); (try rw [← Nbq63.out] at hx179_0); obtain rfl : ad173 = ad179 := (by injection e179); replace p179 := eq_true p179; replace q179 := eq_true q179))
                                      go_roundg kj17
                                      case measure => have := HJ2.out; have := HK2.out; have := HJ17.out; omega
                                      case rel => exact ⟨(wrap64 (x6_2 + 1)), (by first | rfl | (simp; done) | (simp [*]; done)), H', ⟨by have := HJ2.out; have := HK2.out; have := HJ17.out; omega⟩, ⟨by (with_reducible repeat (first | apply Kd.R_alloc | apply Kd.R_drewN | apply Kd.R_drew)); exact HO_5.out⟩, ⟨by repeat (first | (with_reducible first | exact HB.out | apply below_alloc | apply pw_below_drewN | apply below_drew1 | refine below_set ?_ GE172.out) | exact HB.out)⟩⟩
                                  · rw [if_neg c62] at H
                                    exact absurd H (by simp)
                                · rw [if_neg c61] at H
                                  exact absurd H (by simp)
                          · replace c51 := Bool.eq_false_iff.mpr c51
                            subst c51
                            have H1 : (halberdref03_Check.l0 kj17 l0 a1 t167 (wrap64 (x6_2 + 1))) = some r := by rw [if_neg (show ¬ (false = true) by decide)] at H; exact H
                            clear H
                            have H := H1
                            clear H1
                            have H' := Aside0.mk H
                            clear H
                            have hcz71_0 : wc.cell? ⟨gb172, 0, none⟩ = some (.int .u8 ((rd_T24 l0 x6_2).f0)) := (blk_cell BK172.out 0).trans rfl
                            have hcz71_1 : wc.cell? ⟨gb172, 1, none⟩ = some (.int .u8 ((rd_T24 l0 x6_2).f1)) := (blk_cell BK172.out 1).trans rfl
                            have hcz71_2 : wc.cell? ⟨gb172, 2, none⟩ = some (.int .u8 ((rd_T24 l0 x6_2).f2)) := (blk_cell BK172.out 2).trans rfl
                            have hcz71_3 : wc.cell? ⟨gb172, 3, none⟩ = some (.int .i16 ((rd_T24 l0 x6_2).f3)) := (blk_cell BK172.out 3).trans rfl
                            have hcz71_4 : wc.cell? ⟨gb172, 4, none⟩ = some (.int .i32 ((rd_T24 l0 x6_2).f4)) := (blk_cell BK172.out 4).trans rfl
                            have hfz71_0 := blk_frozen BK172.out 0
                            have hfz71_1 := blk_frozen BK172.out 1
                            have hfz71_2 := blk_frozen BK172.out 2
                            have hfz71_3 := blk_frozen BK172.out 3
                            have hfz71_4 := blk_frozen BK172.out 4
                            go_wp2_with (first | ((with_reducible refine gate_callee (f := 15) rfl ?_); refine goesL_ (some 74) rfl rfl Try.func15 (by kernel_rfl) rfl #[.agg #[.int .u8 ((rd_T24 l0 x6_2).f0), .int .u8 ((rd_T24 l0 x6_2).f1), .int .u8 ((rd_T24 l0 x6_2).f2), .int .i16 ((rd_T24 l0 x6_2).f3), .int .i32 ((rd_T24 l0 x6_2).f4)]] rfl (by (try simp only [List.map_toArray, List.map_cons, List.map_nil]); first | done | rfl | (simp only [List.length_drop, List.length_take]; rfl)) ?_; (with_reducible refine (halberdref03_Jump.calls ((rd_T24 l0 x6_2).f0) ((rd_T24 l0 x6_2).f1) ((rd_T24 l0 x6_2).f2) ((rd_T24 l0 x6_2).f3) ((rd_T24 l0 x6_2).f4) false _ A50.out).mono ?_); rintro e w72 ⟨rfl, hb⟩; refine ⟨_, rfl, ?_⟩; have n0_ := Aside0.mk (Kd.R_below (by (with_reducible repeat (first | apply Kd.R_alloc | apply Kd.R_drewN | apply Kd.R_drew)); exact HO_5.out) hb); have n1_ := Aside0.mk (blk_below (g := gb172) (o := .cells #[.int .u8 ((rd_T24 l0 x6_2).f0), .int .u8 ((rd_T24 l0 x6_2).f1), .int .u8 ((rd_T24 l0 x6_2).f2), .int .i16 ((rd_T24 l0 x6_2).f3), .int .i32 ((rd_T24 l0 x6_2).f4)] 24 (0, 0)) (by (with_reducible repeat (first | refine blk_drewN ?_ _ | refine blk_drew ?_ | refine blk_alloc ?_ _)); exact BK172.out) hb); have n2_ := Aside0.mk (below_step (by repeat (first | (with_reducible first | exact HB.out | apply below_alloc | apply pw_below_drewN | apply below_drew1 | refine below_set ?_ GE172.out) | exact HB.out)) hb); clear HO_5; clear BK172; clear HB; have HO_5 := n0_; have BK172 := n1_; have HB := n2_; clear n0_ n1_ n2_; (try clear hb); (try clear hb2); (try clear hk); (try clear hi)))
                            go_roundg kj17
                            case measure => have := HJ2.out; have := HK2.out; have := HJ17.out; omega
                            case rel => exact ⟨(wrap64 (x6_2 + 1)), (by first | rfl | (simp; done) | (simp [*]; done)), H', ⟨by have := HJ2.out; have := HK2.out; have := HJ17.out; omega⟩, ⟨by (with_reducible repeat (first | apply Kd.R_alloc | apply Kd.R_drewN | apply Kd.R_drew)); exact HO_5.out⟩, ⟨by repeat (first | (with_reducible first | exact HB.out | apply below_alloc | apply pw_below_drewN | apply below_drew1 | refine below_set ?_ GE172.out) | exact HB.out)⟩⟩
                    · replace c17 := Bool.eq_false_iff.mpr c17
                      subst c17
                      have H1 : (some false) = some r := by rw [if_neg (show ¬ (false = true) by decide)] at H; exact H
                      clear H
                      have H := H1
                      clear H1
                      obtain rfl := Option.some.inj H
                      have p171 : 0 ≤ (x6_2 : Int) := of_decide_eq_true (by first | (with_reducible assumption) | assumption)
                      have q171 : x6_2 < (l0.length : Int) := of_decide_eq_true (by first | (with_reducible assumption) | assumption)
                      obtain ⟨ad171, e171, hx171_0, hx171_1, hx171_2, hx171_3, hx171_4⟩ := at_T24 HR0.out x6_2 p171 q171
                      cases e171
                      replace hx171_0 := (HB.out.cell (World.block_lt_of_cell? w _ hx171_0)).trans hx171_0
                      replace hx171_1 := (HB.out.cell (World.block_lt_of_cell? w _ hx171_1)).trans hx171_1
                      replace hx171_2 := (HB.out.cell (World.block_lt_of_cell? w _ hx171_2)).trans hx171_2
                      replace hx171_3 := (HB.out.cell (World.block_lt_of_cell? w _ hx171_3)).trans hx171_3
                      replace hx171_4 := (HB.out.cell (World.block_lt_of_cell? w _ hx171_4)).trans hx171_4
                      replace p171 := eq_true p171
                      replace q171 := eq_true q171
                      go_wp2_with (first | ((with_reducible refine gate_dst (N := 7) rfl ?_); (try (refine gate_guard (by rfl) ?_; dsimp only)); refine box_event ?hg (N := 7) ?hd (cs := #[.int .u8 0, .int .u8 0, .int .u8 0, .int .i16 0, .int .i32 0]) (t := 24) ?hr ?_; (case hd => rfl); (case hg => rfl); (case hr => first | (go_simp; done) | (go_simp; rfl)); intro gb172 hg w73 hbox hb; have n0_ := Aside0.mk (Kd.R_below (by (with_reducible repeat (first | apply Kd.R_alloc | apply Kd.R_drewN | apply Kd.R_drew)); exact HO_5.out) hb); have n1_ := Aside0.mk (below_step (by repeat (first | (with_reducible first | exact HB.out | apply below_alloc | apply pw_below_drewN | apply below_drew1) | exact HB.out)) hb); have n2_ := Aside0.mk (hbox); have n3_ := Aside0.mk ((by rw [hg]; exact (below_size (by repeat (first | (with_reducible first | exact HB.out | apply below_alloc | apply pw_below_drewN | apply below_drew1) | exact HB.out))) : w.heap.size ≤ gb172)); have n4_ := Aside0.mk ((by rw [hg]; exact (below_size (by repeat (first | (with_reducible first | exact HB.out | apply below_alloc | apply pw_below_drewN | apply below_drew1) | exact HB.out))) : w.heap.size ≤ gb172)); clear HO_5; clear HB; have HO_5 := n0_; have HB := n1_; have BK172 := n2_; have GW172 := n3_; have GE172 := n4_; clear n0_ n1_ n2_ n3_ n4_; clear hb hbox hg; have hcz74_0 : w73.cell? ⟨gb172, 0, none⟩ = some (.int .u8 0) := (blk_cell BK172.out 0).trans rfl; have hcz74_1 : w73.cell? ⟨gb172, 1, none⟩ = some (.int .u8 0) := (blk_cell BK172.out 1).trans rfl; have hcz74_2 : w73.cell? ⟨gb172, 2, none⟩ = some (.int .u8 0) := (blk_cell BK172.out 2).trans rfl; have hcz74_3 : w73.cell? ⟨gb172, 3, none⟩ = some (.int .i16 0) := (blk_cell BK172.out 3).trans rfl; have hcz74_4 : w73.cell? ⟨gb172, 4, none⟩ = some (.int .i32 0) := (blk_cell BK172.out 4).trans rfl; have hfz74_0 := blk_frozen BK172.out 0; have hfz74_1 := blk_frozen BK172.out 1; have hfz74_2 := blk_frozen BK172.out 2; have hfz74_3 := blk_frozen BK172.out 3; have hfz74_4 := blk_frozen BK172.out 4; obtain ⟨Ao75, co75, eo75⟩ := Kd.R_slice HO_5.out; subst eo75; have p173 : 0 ≤ (x6_2 : Int) := of_decide_eq_true (by first | (with_reducible assumption) | assumption); have q173 : x6_2 < (t167.length : Int) := of_decide_eq_true (by first | (with_reducible assumption) | assumption); obtain ⟨ad173, e173, hx173_0⟩ := Kd.at_bool (Kd.R_reads' HO_5.out).2.2 x6_2 p173 q173; (try rw [← Nbq11.out] at hx173_0); cases e173; have hn173_0 : ad173.block ≠ gb172 := Kd.own_blk (Kd.R_ne HO_5.out BK172.out (by decide)); have hn173_1 : ad173.block ≠ gb172 := Kd.own_blk (Kd.R_ne HO_5.out BK172.out (by decide)); have hn173_2 : ad173.block ≠ gb172 := Kd.own_blk (Kd.R_ne HO_5.out BK172.out (by decide)); have hn173_3 : ad173.block ≠ gb172 := Kd.own_blk (Kd.R_ne HO_5.out BK172.out (by decide)); have hn173_4 : ad173.block ≠ gb172 := Kd.own_blk (Kd.R_ne HO_5.out BK172.out (by decide)); replace hx173_0 := (cell_far (p := ⟨gb172, 0, none⟩) (by first | (rw [add_block]; exact hn173_0) | (show (Addr.add _ _).block ≠ _; rw [add_block]; exact hn173_0) | exact hn173_0) (.int .u8 ((rd_T24 l0 x6_2).f0))).trans hx173_0; replace hx173_0 := (cell_far (p := ⟨gb172, 1, none⟩) (by first | (rw [add_block]; exact hn173_1) | (show (Addr.add _ _).block ≠ _; rw [add_block]; exact hn173_1) | exact hn173_1) (.int .u8 ((rd_T24 l0 x6_2).f1))).trans hx173_0; replace hx173_0 := (cell_far (p := ⟨gb172, 2, none⟩) (by first | (rw [add_block]; exact hn173_2) | (show (Addr.add _ _).block ≠ _; rw [add_block]; exact hn173_2) | exact hn173_2) (.int .u8 ((rd_T24 l0 x6_2).f2))).trans hx173_0; replace hx173_0 := (cell_far (p := ⟨gb172, 3, none⟩) (by first | (rw [add_block]; exact hn173_3) | (show (Addr.add _ _).block ≠ _; rw [add_block]; exact hn173_3) | exact hn173_3) (.int .i16 ((rd_T24 l0 x6_2).f3))).trans hx173_0; replace hx173_0 := (cell_far (p := ⟨gb172, 4, none⟩) (by first | (rw [add_block]; exact hn173_4) | (show (Addr.add _ _).block ≠ _; rw [add_block]; exact hn173_4) | exact hn173_4) (.int .i32 ((rd_T24 l0 x6_2).f4))).trans hx173_0; clear hn173_0; clear hn173_1; clear hn173_2; clear hn173_3; clear hn173_4; replace p173 := eq_true p173; replace q173 := eq_true q173) | ((with_reducible refine gate_callee (f := 11) rfl ?_); refine goesL_ (some 35) rfl rfl Try.func11 (by kernel_rfl) rfl #[.agg #[.int .u8 ((rd_T24 l0 x6_2).f0), .int .u8 ((rd_T24 l0 x6_2).f1), .int .u8 ((rd_T24 l0 x6_2).f2), .int .i16 ((rd_T24 l0 x6_2).f3), .int .i32 ((rd_T24 l0 x6_2).f4)]] rfl (by (try simp only [List.map_toArray, List.map_cons, List.map_nil]); first | done | rfl | (simp only [List.length_drop, List.length_take]; rfl)) ?_; (with_reducible refine (halberdref03_Right.calls k2 ((rd_T24 l0 x6_2).f0) ((rd_T24 l0 x6_2).f1) ((rd_T24 l0 x6_2).f2) ((rd_T24 l0 x6_2).f3) ((rd_T24 l0 x6_2).f4) false _ A16.out).mono ?_); rintro e w76 ⟨rfl, hb⟩; refine ⟨_, rfl, ?_⟩; have n0_ := Aside0.mk (Kd.R_below (by (with_reducible repeat (first | apply Kd.R_alloc | apply Kd.R_drewN | apply Kd.R_drew)); exact (Kd.R_mono (Kd.R_far (p := ⟨gb172, 4, none⟩) (Kd.R_far (p := ⟨gb172, 3, none⟩) (Kd.R_far (p := ⟨gb172, 2, none⟩) (Kd.R_far (p := ⟨gb172, 1, none⟩) (Kd.R_far (p := ⟨gb172, 0, none⟩) (Kd.R_types HO_5.out BK172.out (by decide)) (fun _ hk => hk.2) (.int .u8 ((rd_T24 l0 x6_2).f0))) (fun _ hk => hk.2) (.int .u8 ((rd_T24 l0 x6_2).f1))) (fun _ hk => hk.2) (.int .u8 ((rd_T24 l0 x6_2).f2))) (fun _ hk => hk.2) (.int .i16 ((rd_T24 l0 x6_2).f3))) (fun _ hk => hk.2) (.int .i32 ((rd_T24 l0 x6_2).f4))) (fun _ h_ => h_.1))) hb); have n1_ := Aside0.mk (blk_below (g := gb172) (o := .cells #[.int .u8 ((rd_T24 l0 x6_2).f0), .int .u8 ((rd_T24 l0 x6_2).f1), .int .u8 ((rd_T24 l0 x6_2).f2), .int .i16 ((rd_T24 l0 x6_2).f3), .int .i32 ((rd_T24 l0 x6_2).f4)] 24 (0, 0)) (by (with_reducible repeat (first | refine blk_drewN ?_ _ | refine blk_drew ?_ | refine blk_alloc ?_ _)); refine blk_put (cs := #[.int .u8 ((rd_T24 l0 x6_2).f0), .int .u8 ((rd_T24 l0 x6_2).f1), .int .u8 ((rd_T24 l0 x6_2).f2), .int .i16 ((rd_T24 l0 x6_2).f3), .int .i32 0]) ?_ 4 _ rfl; (with_reducible repeat (first | refine blk_drewN ?_ _ | refine blk_drew ?_ | refine blk_alloc ?_ _)); refine blk_put (cs := #[.int .u8 ((rd_T24 l0 x6_2).f0), .int .u8 ((rd_T24 l0 x6_2).f1), .int .u8 ((rd_T24 l0 x6_2).f2), .int .i16 0, .int .i32 0]) ?_ 3 _ rfl; (with_reducible repeat (first | refine blk_drewN ?_ _ | refine blk_drew ?_ | refine blk_alloc ?_ _)); refine blk_put (cs := #[.int .u8 ((rd_T24 l0 x6_2).f0), .int .u8 ((rd_T24 l0 x6_2).f1), .int .u8 0, .int .i16 0, .int .i32 0]) ?_ 2 _ rfl; (with_reducible repeat (first | refine blk_drewN ?_ _ | refine blk_drew ?_ | refine blk_alloc ?_ _)); refine blk_put (cs := #[.int .u8 ((rd_T24 l0 x6_2).f0), .int .u8 0, .int .u8 0, .int .i16 0, .int .i32 0]) ?_ 1 _ rfl; (with_reducible repeat (first | refine blk_drewN ?_ _ | refine blk_drew ?_ | refine blk_alloc ?_ _)); refine blk_put (cs := #[.int .u8 0, .int .u8 0, .int .u8 0, .int .i16 0, .int .i32 0]) ?_ 0 _ rfl; (with_reducible repeat (first | refine blk_drewN ?_ _ | refine blk_drew ?_ | refine blk_alloc ?_ _)); exact BK172.out) hb); have n2_ := Aside0.mk (below_step (by repeat (first | (with_reducible first | exact HB.out | apply below_alloc | apply pw_below_drewN | apply below_drew1 | refine below_set ?_ GE172.out) | exact HB.out)) hb); clear HO_5; clear BK172; clear HB; have HO_5 := n0_; have BK172 := n1_; have HB := n2_; clear n0_ n1_ n2_; (try clear hb); (try clear hb2); (try clear hk); (try clear hi)))
                      go_ret
                      exact ⟨by first | rfl | (simp [errW_none, errW_some] <;> rfl) | (simp [*, errW_none, errW_some] <;> rfl), by repeat (first | (with_reducible first | exact HB.out | apply below_alloc | apply pw_below_drewN | apply below_drew1 | refine below_set ?_ GE172.out) | exact HB.out)⟩
                · rw [if_neg c10] at H
                  exact absurd H (by simp)
              · rw [if_neg c9] at H
                exact absurd H (by simp)
            · rw [if_neg c8] at H
              have c8b0 : decide (x6_2 < (l0.length : Int)) = false := decide_eq_false c8
              clear c8
              obtain ⟨ji77, hji77⟩ : ∃ j_ : Int, (wrap64 ((l0.length : Int) - 1)) = j_ := ⟨_, rfl⟩
              replace H : (if 0 ≤ (ji77) then (if (ji77) < (l0.length : Int) then (some (((rd_T24 l0 (ji77)).f0) == 149 && (((rd_T24 l0 (ji77)).f1) == 0 && (((rd_T24 l0 (ji77)).f2) == 0 && (((rd_T24 l0 (ji77)).f3) == 0 && (((rd_T24 l0 (ji77)).f4) == 0)))))) else (none)) else (none)) = some r := by first | (rw [hji77] at H; exact H) | (simp only [hji77] at H ⊢; exact H)
              have hji77w : (IntKind.i64.wrap ((l0.length : Int) - 1)) = ji77 := (i64_w _).trans hji77
              by_cases c78 : 0 ≤ (ji77)
              · rw [if_pos c78] at H
                have c78b0 : decide (0 ≤ (ji77)) = true := decide_eq_true c78
                clear c78
                by_cases c79 : (ji77) < (l0.length : Int)
                · rw [if_pos c79] at H
                  have c79b0 : decide ((ji77) < (l0.length : Int)) = true := decide_eq_true c79
                  clear c79
                  obtain rfl := Option.some.inj H
                  have p170 : 0 ≤ ((ji77) : Int) := of_decide_eq_true (by first | (with_reducible assumption) | assumption)
                  have q170 : (ji77) < (l0.length : Int) := of_decide_eq_true (by first | (with_reducible assumption) | assumption)
                  obtain ⟨ad170, e170, hx170_0, hx170_1, hx170_2, hx170_3, hx170_4⟩ := at_T24 HR0.out (ji77) p170 q170
                  cases e170
                  replace hx170_0 := (HB.out.cell (World.block_lt_of_cell? w _ hx170_0)).trans hx170_0
                  replace hx170_1 := (HB.out.cell (World.block_lt_of_cell? w _ hx170_1)).trans hx170_1
                  replace hx170_2 := (HB.out.cell (World.block_lt_of_cell? w _ hx170_2)).trans hx170_2
                  replace hx170_3 := (HB.out.cell (World.block_lt_of_cell? w _ hx170_3)).trans hx170_3
                  replace hx170_4 := (HB.out.cell (World.block_lt_of_cell? w _ hx170_4)).trans hx170_4
                  replace p170 := eq_true p170
                  replace q170 := eq_true q170
                  go_wp2
                  go_ret
                  exact ⟨by first | rfl | (simp [errW_none, errW_some] <;> rfl) | (simp only [← hji77]; first | rfl | (simp [errW_none, errW_some] <;> rfl)) | (simp [*, errW_none, errW_some] <;> rfl), by repeat (first | (with_reducible first | exact HB.out | apply below_alloc | apply pw_below_drewN | apply below_drew1) | exact HB.out)⟩
                · rw [if_neg c79] at H
                  exact absurd H (by simp)
              · rw [if_neg c78] at H
                exact absurd H (by simp)

end Go.Proofs.Ytkbngkhajkhfgaa.PIsaChecks
