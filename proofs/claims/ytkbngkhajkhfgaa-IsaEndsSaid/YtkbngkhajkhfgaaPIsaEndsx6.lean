/- Functions of the program that some laws reach, as Lean functions, and proofs that the program's calls come to what they say: written by a program, for the texts that import it; each theorem bears its own conditions. -/
import Derived.Test.YtkbngkhajkhfgaaPIsaEndsx0
import Derived.Test.YtkbngkhajkhfgaaPIsaEndsx5
namespace Go.Proofs.Ytkbngkhajkhfgaa.PIsaEnds
open Go.RowKit Go.Proofs.YtkbngkhajkhfgaaW.PrintWords Go.Proofs.YtkbngkhajkhfgaaW.PrintLast Go.Proofs.YtkbngkhajkhfgaaW.PrintMore
attribute [local go_sem] max2_int min2_int max_two min_two max_three min_three max_four min_four   -- for this text's walks alone
set_option linter.unusedVariables false
set_option linter.unusedSimpArgs false

/-! ### halberdlaw03_IsaEnds: function 5 -/
mutual
def halberdlaw03_IsaEnds.j0 : Nat → List (S24) → List Bool → Bool → Option (Bool)
  | 0, _, _, _ => none
  | k + 1, x0, x2, x21 => if x21 = true then (some true) else (halberdlaw03_IsaEnds.l0 k x0 x2 0 0)
def halberdlaw03_IsaEnds.l0 : Nat → List (S24) → List Bool → Int → Int → Option (Bool)
  | 0, _, _, _, _ => none
  | k + 1, x0, x2, x7, x8 => if x8 < (x0.length : Int) then (if x7 ≥ (x0.length : Int) then (some false) else (if 0 ≤ x7 then (if x7 < (x0.length : Int) then (if ((rd_T24 x0 x7).f0) = 149 then (some true) else (if x8 < (x2.length : Int) then (if 0 ≤ x8 then (halberdlaw03_IsaEnds.j2 k x0 x2 x7 x8 (rdOf false x2 x8) ((rd_T24 x0 x7).f0) ((rd_T24 x0 x7).f1) ((rd_T24 x0 x7).f2) ((rd_T24 x0 x7).f3) ((rd_T24 x0 x7).f4)) else (none)) else (halberdlaw03_IsaEnds.j2 k x0 x2 x7 x8 false ((rd_T24 x0 x7).f0) ((rd_T24 x0 x7).f1) ((rd_T24 x0 x7).f2) ((rd_T24 x0 x7).f3) ((rd_T24 x0 x7).f4)))) else (none)) else (none))) else (some false)
def halberdlaw03_IsaEnds.j2 : Nat → List (S24) → List Bool → Int → Int → Bool → Int → Int → Int → Int → Int → Option (Bool)
  | 0, _, _, _, _, _, _, _, _, _, _ => none
  | k + 1, x0, x2, x7, x8, x10, x148000, x148001, x148002, x148003, x148004 => if x148000 = 24 then (halberdlaw03_IsaEnds.l0 k x0 x2 (wrap64 (x7 + 2)) (wrap64 (x8 + 1))) else (if x148000 = 5 then (halberdlaw03_IsaEnds.l0 k x0 x2 (wrap64 ((wrap64 (x7 + 1)) + (wrap64 (x148003)))) (wrap64 (x8 + 1))) else ((halberdref03_Conditional.f x148000).bind fun t149 => (if t149 = true then (if x10 = true then (halberdlaw03_IsaEnds.l0 k x0 x2 (wrap64 ((wrap64 (x7 + 1)) + (wrap64 (x148003)))) (wrap64 (x8 + 1))) else (halberdlaw03_IsaEnds.l0 k x0 x2 (wrap64 (x7 + 1)) (wrap64 (x8 + 1)))) else (halberdlaw03_IsaEnds.l0 k x0 x2 (wrap64 (x7 + 1)) (wrap64 (x8 + 1))))))
end
def halberdlaw03_IsaEnds.f (k : Nat) (l0 : List (S24)) (a1 : Int) (l2 : List Bool) : Option (Bool) := (halberdlaw03_alive.f k).bind fun t144 => (if t144 = true then (if (l0.length : Int) > 100 then (halberdlaw03_IsaEnds.j0 k l0 l2 true) else ((isa_Check.f k l0 a1).bind fun t145 => (halberdlaw03_IsaEnds.j0 k l0 l2 (t145 != 0)))) else (some false))
theorem halberdlaw03_IsaEnds.mono_l : ∀ k, (∀ y0 y1 y2, LeO (halberdlaw03_IsaEnds.j0 k y0 y1 y2) (halberdlaw03_IsaEnds.j0 (k + 1) y0 y1 y2)) ∧ (∀ y0 y1 y2 y3, LeO (halberdlaw03_IsaEnds.l0 k y0 y1 y2 y3) (halberdlaw03_IsaEnds.l0 (k + 1) y0 y1 y2 y3)) ∧ (∀ y0 y1 y2 y3 y4 y5 y6 y7 y8 y9, LeO (halberdlaw03_IsaEnds.j2 k y0 y1 y2 y3 y4 y5 y6 y7 y8 y9) (halberdlaw03_IsaEnds.j2 (k + 1) y0 y1 y2 y3 y4 y5 y6 y7 y8 y9))
  | 0 => ⟨fun _ _ _ r h => by simp [halberdlaw03_IsaEnds.j0] at h, fun _ _ _ _ r h => by simp [halberdlaw03_IsaEnds.l0] at h, fun _ _ _ _ _ _ _ _ _ _ r h => by simp [halberdlaw03_IsaEnds.j2] at h⟩
  | k + 1 => by
    obtain ⟨ih0, ih1, ih2⟩ := halberdlaw03_IsaEnds.mono_l k
    refine ⟨?_, ?_, ?_⟩
    · intro y0 y1 y2
      unfold halberdlaw03_IsaEnds.j0
      repeat' first
      | (with_reducible exact ih0 _ _ _)
      | (with_reducible exact ih1 _ _ _ _)
      | (with_reducible exact ih2 _ _ _ _ _ _ _ _ _ _)
      | (with_reducible exact halberdlaw03_alive.mono _)
      | (with_reducible exact isa_Check.mono _ _ _)
      | (with_reducible exact LeO.refl _)
      | (with_reducible exact LeO.none _)
      | (with_reducible refine LeO.ite ?_ ?_)
      | (with_reducible refine LeO.bind ?_ (fun _ => ?_))
      | exact ih0 _ _ _
      | exact ih1 _ _ _ _
      | exact ih2 _ _ _ _ _ _ _ _ _ _
      | exact halberdlaw03_alive.mono _
      | exact isa_Check.mono _ _ _
      | exact LeO.none _
      | refine LeO.ite ?_ ?_
      | refine LeO.bind ?_ (fun _ => ?_)
    · intro y0 y1 y2 y3
      unfold halberdlaw03_IsaEnds.l0
      repeat' first
      | (with_reducible exact ih0 _ _ _)
      | (with_reducible exact ih1 _ _ _ _)
      | (with_reducible exact ih2 _ _ _ _ _ _ _ _ _ _)
      | (with_reducible exact halberdlaw03_alive.mono _)
      | (with_reducible exact isa_Check.mono _ _ _)
      | (with_reducible exact LeO.refl _)
      | (with_reducible exact LeO.none _)
      | (with_reducible refine LeO.ite ?_ ?_)
      | (with_reducible refine LeO.bind ?_ (fun _ => ?_))
      | exact ih0 _ _ _
      | exact ih1 _ _ _ _
      | exact ih2 _ _ _ _ _ _ _ _ _ _
      | exact halberdlaw03_alive.mono _
      | exact isa_Check.mono _ _ _
      | exact LeO.none _
      | refine LeO.ite ?_ ?_
      | refine LeO.bind ?_ (fun _ => ?_)
    · intro y0 y1 y2 y3 y4 y5 y6 y7 y8 y9
      unfold halberdlaw03_IsaEnds.j2
      repeat' first
      | (with_reducible exact ih0 _ _ _)
      | (with_reducible exact ih1 _ _ _ _)
      | (with_reducible exact ih2 _ _ _ _ _ _ _ _ _ _)
      | (with_reducible exact halberdlaw03_alive.mono _)
      | (with_reducible exact isa_Check.mono _ _ _)
      | (with_reducible exact LeO.refl _)
      | (with_reducible exact LeO.none _)
      | (with_reducible refine LeO.ite ?_ ?_)
      | (with_reducible refine LeO.bind ?_ (fun _ => ?_))
      | exact ih0 _ _ _
      | exact ih1 _ _ _ _
      | exact ih2 _ _ _ _ _ _ _ _ _ _
      | exact halberdlaw03_alive.mono _
      | exact isa_Check.mono _ _ _
      | exact LeO.none _
      | refine LeO.ite ?_ ?_
      | refine LeO.bind ?_ (fun _ => ?_)
theorem halberdlaw03_IsaEnds.mono : ∀ a0 a1 a2 k, LeO (halberdlaw03_IsaEnds.f k a0 a1 a2) (halberdlaw03_IsaEnds.f (k + 1) a0 a1 a2) := by
  intro a0 a1 a2 k
  obtain ⟨ih0, ih1, ih2⟩ := halberdlaw03_IsaEnds.mono_l k
  unfold halberdlaw03_IsaEnds.f
  repeat' first
      | (with_reducible exact ih0 _ _ _)
      | (with_reducible exact ih1 _ _ _ _)
      | (with_reducible exact ih2 _ _ _ _ _ _ _ _ _ _)
      | (with_reducible exact halberdlaw03_alive.mono _)
      | (with_reducible exact isa_Check.mono _ _ _)
      | (with_reducible exact LeO.refl _)
      | (with_reducible exact LeO.none _)
      | (with_reducible refine LeO.ite ?_ ?_)
      | (with_reducible refine LeO.bind ?_ (fun _ => ?_))
      | exact ih0 _ _ _
      | exact ih1 _ _ _ _
      | exact ih2 _ _ _ _ _ _ _ _ _ _
      | exact halberdlaw03_alive.mono _
      | exact isa_Check.mono _ _ _
      | exact LeO.none _
      | refine LeO.ite ?_ ?_
      | refine LeO.bind ?_ (fun _ => ?_)
set_option maxHeartbeats 8000000 in
set_option maxRecDepth 100000 in
theorem halberdlaw03_IsaEnds.calls (k : Nat) (A0 : Option Addr) (c0 : Nat) (l0 : List (S24)) (a1 : Int) (A2 : Option Addr) (c2 : Nat) (l2 : List Bool) (r : Bool) (w : World) (hr0 : Kd.C k24 w A0 l0.length l0) (hc0 : l0.length ≤ c0) (hr2 : Kd.C Kd.bool w A2 l2.length l2) (hc2 : l2.length ≤ c2) (hr_ : Aside0 (r = true)) (h : halberdlaw03_IsaEnds.f k l0 a1 l2 = some r) :
    Calls Try.prog 5 #[.slice A0 l0.length c0, .int .i64 a1, .slice A2 l2.length c2] w fun e w' => e = .returned (.bool r) ∧ Below w.heap.size w w' := by
  have hu24 := Try.underlying24
  have HR0 := Aside0.mk hr0
  have HC0 := Aside0.mk hc0
  clear hr0 hc0
  have HR2 := Aside0.mk hr2
  have HC2 := Aside0.mk hc2
  clear hr2 hc2
  have HB := Aside0.mk (Below.refl w.heap.size w)
  have H : ((halberdlaw03_alive.f k).bind fun t144 => (if t144 = true then (if (l0.length : Int) > 100 then (halberdlaw03_IsaEnds.j0 k l0 l2 true) else ((isa_Check.f k l0 a1).bind fun t145 => (halberdlaw03_IsaEnds.j0 k l0 l2 (t145 != 0)))) else (some false))) = some r := h
  clear h
  replace H := Option.bind_eq_some_iff.mp H
  obtain ⟨t144, A40, H⟩ := H
  replace H : (if t144 = true then (if (l0.length : Int) > 100 then (halberdlaw03_IsaEnds.j0 k l0 l2 true) else ((isa_Check.f k l0 a1).bind fun t145 => (halberdlaw03_IsaEnds.j0 k l0 l2 (t145 != 0)))) else (some false)) = some r := H
  have A4 := Aside0.mk A40
  clear A40
  by_cases c5 : t144 = true
  · subst c5
    have H1 : (if (l0.length : Int) > 100 then (halberdlaw03_IsaEnds.j0 k l0 l2 true) else ((isa_Check.f k l0 a1).bind fun t145 => (halberdlaw03_IsaEnds.j0 k l0 l2 (t145 != 0)))) = some r := by rw [if_pos rfl] at H; exact H
    clear H
    have H := H1
    clear H1
    have HC6 := Aside0.mk H
    clear H
    go_enter Try.func5, Try.ntmps5
    go_upto_region 3 with (first | ((with_reducible refine gate_callee (f := 9) rfl ?_); refine goesL_ (some 11) rfl rfl Try.func9 (by kernel_rfl) rfl #[] rfl (by (try simp only [List.map_toArray, List.map_cons, List.map_nil]); first | done | rfl | (simp only [List.length_drop, List.length_take]; rfl)) ?_; (with_reducible refine (halberdlaw03_alive.calls k  true _ A4.out).mono ?_); rintro e w7 ⟨rfl, hb⟩; refine ⟨_, rfl, ?_⟩; have n0_ := Aside0.mk (below_step (by repeat (first | (with_reducible first | exact HB.out | apply below_alloc | apply pw_below_drewN | apply below_drew1) | exact HB.out)) hb); clear HB; have HB := n0_; clear n0_; (try clear hb); (try clear hb2); (try clear hk); (try clear hi)))
    (try simp only [Act.put, List.setIfInBounds_toArray, List.set_cons_zero, List.set_cons_succ])
    go_cut [21] (fun v21 wc => ∃ (kq : Nat) (x21_5 : Bool), v21 = .bool x21_5 ∧ Aside0 (halberdlaw03_IsaEnds.j0 kq l0 l2 x21_5 = some r) ∧ Aside0 (kq ≤ k) ∧ Aside0 (Below w.heap.size w wc))
    case first =>
      have H := HC6.out
      clear HC6
      by_cases c8 : (l0.length : Int) > 100
      · rw [if_pos c8] at H
        have c8b0 : decide (100 < (l0.length : Int)) = true := decide_eq_true c8
        have c8b1 : decide (100 < l0.length) = true := decide_eq_true (by omega)
        clear c8
        (first | rw [c8b0] | (simp only [i64_w, i32_w]; rw [c8b0]) | skip)
        have H' := Aside0.mk H
        clear H
        go_wp2
        go_meet
        case rel => exact ⟨_, (true), (by first | rfl | (simp; done) | (simp [*]; done)), H', ⟨by first | omega | exact Nat.le_refl _⟩, ⟨by repeat (first | (with_reducible first | exact HB.out | apply below_alloc | apply pw_below_drewN | apply below_drew1) | exact HB.out)⟩⟩
      · rw [if_neg c8] at H
        have c8b0 : decide (100 < (l0.length : Int)) = false := decide_eq_false c8
        have c8b1 : decide (100 < l0.length) = false := decide_eq_false (by omega)
        clear c8
        (first | rw [c8b0] | (simp only [i64_w, i32_w]; rw [c8b0]) | skip)
        replace H := Option.bind_eq_some_iff.mp H
        obtain ⟨t145, A90, H⟩ := H
        replace H : (halberdlaw03_IsaEnds.j0 k l0 l2 (t145 != 0)) = some r := H
        have A9 := Aside0.mk A90
        clear A90
        have H' := Aside0.mk H
        clear H
        go_wp2_with (first | (go_at_call 18; (with_reducible refine (isa_Check.calls k _ _ l0 a1 t145 _ ?side1 ?side2 A9.out).mono ?_); (case side1 => repeat (first | exact (Kd.C_below HR0.out HB.out) | (with_reducible refine Kd.C_alloc ?_ _) | (with_reducible refine Kd.C_drewN ?_ _) | (with_reducible refine Kd.C_drew ?_))); (case side2 => exact HC0.out); rintro e w10 ⟨rfl, hb⟩; have n0_ := Aside0.mk (below_step (by repeat (first | (with_reducible first | exact HB.out | apply below_alloc | apply pw_below_drewN | apply below_drew1) | exact HB.out)) hb); clear HB; have HB := n0_; clear n0_; (try clear hb); (try clear hb2); (try clear hk); (try clear hi)))
        go_meet
        case rel => exact ⟨_, ((t145 != 0)), (by first | rfl | (simp; done) | (simp [*]; done)), H', ⟨by first | omega | exact Nat.le_refl _⟩, ⟨by repeat (first | (with_reducible first | exact HB.out | apply below_alloc | apply pw_below_drewN | apply below_drew1) | exact HB.out)⟩⟩
    case rest =>
      clear HC6
      try clear c2
      try clear p2
      try clear c5
      try clear c8
      try clear c8b0
      try clear c8b1
      try clear c9
      obtain ⟨kq, x21_5, rfl, HA, HJ5, HB⟩ := hcut
      cases kq with
      | zero => exact absurd HA.out (by simp [halberdlaw03_IsaEnds.j0])
      | succ kj5 =>
        have H := HA.out
        clear HA
        simp only [halberdlaw03_IsaEnds.j0] at H
        by_cases c11 : x21_5 = true
        · subst c11
          have H1 : (some true) = some r := by rw [if_pos rfl] at H; exact H
          clear H
          have H := H1
          clear H1
          obtain rfl := Option.some.inj H
          go_wp2
          go_ret
          exact ⟨by first | rfl | (simp [errW_none, errW_some] <;> rfl) | (simp [*, errW_none, errW_some] <;> rfl), by repeat (first | (with_reducible first | exact HB.out | apply below_alloc | apply pw_below_drewN | apply below_drew1) | exact HB.out)⟩
        · replace c11 := Bool.eq_false_iff.mpr c11
          subst c11
          have H1 : (halberdlaw03_IsaEnds.l0 kj5 l0 l2 0 0) = some r := by rw [if_neg (show ¬ (false = true) by decide)] at H; exact H
          clear H
          have H := H1
          clear H1
          have H' := Aside0.mk H
          clear H
          go_wp2
          go_loopg [7, 8] kj5 (fun kq v7 v8 w' => ∃ (x7_2 : Int) (x8_2 : Int), v7 = .int .i64 x7_2 ∧ v8 = .int .i64 x8_2 ∧ Aside0 (halberdlaw03_IsaEnds.l0 kq l0 l2 x7_2 x8_2 = some r) ∧ Aside0 (kq ≤ kj5) ∧ Aside0 (Below w.heap.size w w'))
          case atStart => exact ⟨(0), (0), (by first | rfl | (simp; done) | (simp [*]; done)), (by first | rfl | (simp; done) | (simp [*]; done)), H', ⟨Nat.le_refl _⟩, ⟨by repeat (first | (with_reducible first | exact HB.out | apply below_alloc | apply pw_below_drewN | apply below_drew1) | exact HB.out)⟩⟩
          case round =>
            clear H'
            try clear c1
            try clear c2
            try clear p2
            try clear c5
            try clear c8
            try clear c8b0
            try clear c8b1
            try clear c9
            try clear c11
            try clear p2
            obtain ⟨x7_2, x8_2, rfl, rfl, HA, HK2, HB⟩ := hrel
            cases gk with
            | zero => exact absurd HA.out (by simp [halberdlaw03_IsaEnds.l0])
            | succ k2 =>
              have H := HA.out
              clear HA
              simp only [halberdlaw03_IsaEnds.l0] at H
              by_cases c12 : x8_2 < (l0.length : Int)
              · rw [if_pos c12] at H
                have c12b0 : decide (x8_2 < (l0.length : Int)) = true := decide_eq_true c12
                clear c12
                by_cases c13 : x7_2 ≥ (l0.length : Int)
                · rw [if_pos c13] at H
                  have c13b0 : decide ((l0.length : Int) ≤ x7_2) = true := decide_eq_true c13
                  clear c13
                  exact absurd (Option.some.inj H) (by rw [hr_.out]; decide)
                · rw [if_neg c13] at H
                  have c13b0 : decide ((l0.length : Int) ≤ x7_2) = false := decide_eq_false c13
                  clear c13
                  by_cases c14 : 0 ≤ x7_2
                  · rw [if_pos c14] at H
                    have c14b0 : decide (0 ≤ x7_2) = true := decide_eq_true c14
                    clear c14
                    by_cases c15 : x7_2 < (l0.length : Int)
                    · rw [if_pos c15] at H
                      have c15b0 : decide (x7_2 < (l0.length : Int)) = true := decide_eq_true c15
                      clear c15
                      by_cases c16 : ((rd_T24 l0 x7_2).f0) = 149
                      · rw [if_pos c16] at H
                        have c16b0 : (((rd_T24 l0 x7_2).f0) == 149) = true := beq_iff_eq.mpr c16
                        have c16b1 : (((rd_T24 l0 x7_2).f0) != 149) = false := bne_eq_false_iff_eq.mpr c16
                        clear c16
                        obtain rfl := Option.some.inj H
                        have p146 : 0 ≤ (x7_2 : Int) := of_decide_eq_true (by first | (with_reducible assumption) | assumption)
                        have q146 : x7_2 < (l0.length : Int) := of_decide_eq_true (by first | (with_reducible assumption) | assumption)
                        obtain ⟨ad146, e146, hx146_0, hx146_1, hx146_2, hx146_3, hx146_4⟩ := at_T24 HR0.out x7_2 p146 q146
                        cases e146
                        replace hx146_0 := (HB.out.cell (World.block_lt_of_cell? w _ hx146_0)).trans hx146_0
                        replace hx146_1 := (HB.out.cell (World.block_lt_of_cell? w _ hx146_1)).trans hx146_1
                        replace hx146_2 := (HB.out.cell (World.block_lt_of_cell? w _ hx146_2)).trans hx146_2
                        replace hx146_3 := (HB.out.cell (World.block_lt_of_cell? w _ hx146_3)).trans hx146_3
                        replace hx146_4 := (HB.out.cell (World.block_lt_of_cell? w _ hx146_4)).trans hx146_4
                        replace p146 := eq_true p146
                        replace q146 := eq_true q146
                        go_wp2_with (first | ((with_reducible refine gate_dst (N := 9) rfl ?_); refine box_event ?hg (N := 9) ?hd (cs := #[.int .u8 0, .int .u8 0, .int .u8 0, .int .i16 0, .int .i32 0]) (t := 24) ?hr ?_; (case hd => rfl); (case hg => rfl); (case hr => first | (go_simp; done) | (go_simp; rfl)); intro gb147 hg w17 hbox hb; have n0_ := Aside0.mk (below_step (by repeat (first | (with_reducible first | exact HB.out | apply below_alloc | apply pw_below_drewN | apply below_drew1) | exact HB.out)) hb); have n1_ := Aside0.mk (hbox); have n2_ := Aside0.mk ((by rw [hg]; exact (below_size (by repeat (first | (with_reducible first | exact HB.out | apply below_alloc | apply pw_below_drewN | apply below_drew1) | exact HB.out))) : w.heap.size ≤ gb147)); have n3_ := Aside0.mk ((by rw [hg]; exact (below_size (by repeat (first | (with_reducible first | exact HB.out | apply below_alloc | apply pw_below_drewN | apply below_drew1) | exact HB.out))) : w.heap.size ≤ gb147)); clear HB; have HB := n0_; have BK147 := n1_; have GW147 := n2_; have GE147 := n3_; clear n0_ n1_ n2_ n3_; clear hb hbox hg; have hcz18_0 : w17.cell? ⟨gb147, 0, none⟩ = some (.int .u8 0) := (blk_cell BK147.out 0).trans rfl; have hcz18_1 : w17.cell? ⟨gb147, 1, none⟩ = some (.int .u8 0) := (blk_cell BK147.out 1).trans rfl; have hcz18_2 : w17.cell? ⟨gb147, 2, none⟩ = some (.int .u8 0) := (blk_cell BK147.out 2).trans rfl; have hcz18_3 : w17.cell? ⟨gb147, 3, none⟩ = some (.int .i16 0) := (blk_cell BK147.out 3).trans rfl; have hcz18_4 : w17.cell? ⟨gb147, 4, none⟩ = some (.int .i32 0) := (blk_cell BK147.out 4).trans rfl; have hfz18_0 := blk_frozen BK147.out 0; have hfz18_1 := blk_frozen BK147.out 1; have hfz18_2 := blk_frozen BK147.out 2; have hfz18_3 := blk_frozen BK147.out 3; have hfz18_4 := blk_frozen BK147.out 4))
                        go_ret
                        exact ⟨by first | rfl | (simp [errW_none, errW_some] <;> rfl) | (simp [*, errW_none, errW_some] <;> rfl), by repeat (first | (with_reducible first | exact HB.out | apply below_alloc | apply pw_below_drewN | apply below_drew1 | refine below_set ?_ GE147.out) | exact HB.out)⟩
                      · rw [if_neg c16] at H
                        have c16b0 : (((rd_T24 l0 x7_2).f0) == 149) = false := beq_eq_false_iff_ne.mpr c16
                        have c16b1 : (((rd_T24 l0 x7_2).f0) != 149) = true := bne_iff_ne.mpr c16
                        have HC19 := Aside0.mk H
                        clear H
                        have p146 : 0 ≤ (x7_2 : Int) := of_decide_eq_true (by first | (with_reducible assumption) | assumption)
                        have q146 : x7_2 < (l0.length : Int) := of_decide_eq_true (by first | (with_reducible assumption) | assumption)
                        obtain ⟨ad146, e146, hx146_0, hx146_1, hx146_2, hx146_3, hx146_4⟩ := at_T24 HR0.out x7_2 p146 q146
                        cases e146
                        replace hx146_0 := (HB.out.cell (World.block_lt_of_cell? w _ hx146_0)).trans hx146_0
                        replace hx146_1 := (HB.out.cell (World.block_lt_of_cell? w _ hx146_1)).trans hx146_1
                        replace hx146_2 := (HB.out.cell (World.block_lt_of_cell? w _ hx146_2)).trans hx146_2
                        replace hx146_3 := (HB.out.cell (World.block_lt_of_cell? w _ hx146_3)).trans hx146_3
                        replace hx146_4 := (HB.out.cell (World.block_lt_of_cell? w _ hx146_4)).trans hx146_4
                        replace p146 := eq_true p146
                        replace q146 := eq_true q146
                        go_upto_region 14 with (first | ((with_reducible refine gate_dst (N := 9) rfl ?_); refine box_event ?hg (N := 9) ?hd (cs := #[.int .u8 0, .int .u8 0, .int .u8 0, .int .i16 0, .int .i32 0]) (t := 24) ?hr ?_; (case hd => rfl); (case hg => rfl); (case hr => first | (go_simp; done) | (go_simp; rfl)); intro gb147 hg w20 hbox hb; have n0_ := Aside0.mk (below_step (by repeat (first | (with_reducible first | exact HB.out | apply below_alloc | apply pw_below_drewN | apply below_drew1) | exact HB.out)) hb); have n1_ := Aside0.mk (hbox); have n2_ := Aside0.mk ((by rw [hg]; exact (below_size (by repeat (first | (with_reducible first | exact HB.out | apply below_alloc | apply pw_below_drewN | apply below_drew1) | exact HB.out))) : w.heap.size ≤ gb147)); have n3_ := Aside0.mk ((by rw [hg]; exact (below_size (by repeat (first | (with_reducible first | exact HB.out | apply below_alloc | apply pw_below_drewN | apply below_drew1) | exact HB.out))) : w.heap.size ≤ gb147)); clear HB; have HB := n0_; have BK147 := n1_; have GW147 := n2_; have GE147 := n3_; clear n0_ n1_ n2_ n3_; clear hb hbox hg; have hcz21_0 : w20.cell? ⟨gb147, 0, none⟩ = some (.int .u8 0) := (blk_cell BK147.out 0).trans rfl; have hcz21_1 : w20.cell? ⟨gb147, 1, none⟩ = some (.int .u8 0) := (blk_cell BK147.out 1).trans rfl; have hcz21_2 : w20.cell? ⟨gb147, 2, none⟩ = some (.int .u8 0) := (blk_cell BK147.out 2).trans rfl; have hcz21_3 : w20.cell? ⟨gb147, 3, none⟩ = some (.int .i16 0) := (blk_cell BK147.out 3).trans rfl; have hcz21_4 : w20.cell? ⟨gb147, 4, none⟩ = some (.int .i32 0) := (blk_cell BK147.out 4).trans rfl; have hfz21_0 := blk_frozen BK147.out 0; have hfz21_1 := blk_frozen BK147.out 1; have hfz21_2 := blk_frozen BK147.out 2; have hfz21_3 := blk_frozen BK147.out 3; have hfz21_4 := blk_frozen BK147.out 4))
                        (try simp only [Act.put, List.setIfInBounds_toArray, List.set_cons_zero, List.set_cons_succ])
                        go_cut [10] (fun v10 wc => ∃ (kq : Nat) (x10_18 : Bool), v10 = .bool x10_18 ∧ Aside0 (halberdlaw03_IsaEnds.j2 kq l0 l2 x7_2 x8_2 x10_18 ((rd_T24 l0 x7_2).f0) ((rd_T24 l0 x7_2).f1) ((rd_T24 l0 x7_2).f2) ((rd_T24 l0 x7_2).f3) ((rd_T24 l0 x7_2).f4) = some r) ∧ Aside0 (kq ≤ k2) ∧ Aside0 (wc.heap[gb147]? = some (.cells #[.int .u8 ((rd_T24 l0 x7_2).f0), .int .u8 ((rd_T24 l0 x7_2).f1), .int .u8 ((rd_T24 l0 x7_2).f2), .int .i16 ((rd_T24 l0 x7_2).f3), .int .i32 ((rd_T24 l0 x7_2).f4)] 24 (0, 0))) ∧ Aside0 (Below w.heap.size w wc))
                        case first =>
                          have H := HC19.out
                          clear HC19
                          by_cases c22 : x8_2 < (l2.length : Int)
                          · rw [if_pos c22] at H
                            have c22b0 : decide (x8_2 < (l2.length : Int)) = true := decide_eq_true c22
                            clear c22
                            (first | rw [c22b0] | (simp only [i64_w, i32_w]; rw [c22b0]) | skip)
                            by_cases c23 : 0 ≤ x8_2
                            · rw [if_pos c23] at H
                              have c23b0 : decide (0 ≤ x8_2) = true := decide_eq_true c23
                              clear c23
                              have H' := Aside0.mk H
                              clear H
                              have p148 : 0 ≤ (x8_2 : Int) := of_decide_eq_true (by first | (with_reducible assumption) | assumption)
                              have q148 : x8_2 < (l2.length : Int) := of_decide_eq_true (by first | (with_reducible assumption) | assumption)
                              obtain ⟨ad148, e148, hx148_0⟩ := Kd.at_bool HR2.out x8_2 p148 q148
                              cases e148
                              have hn148_0 : ad148.block ≠ gb147 := Nat.ne_of_lt (Nat.lt_of_lt_of_le (by have := World.block_lt_of_cell? _ _ hx148_0; first | rwa [add_block] at this | exact this) GW147.out)
                              have hn148_1 : ad148.block ≠ gb147 := Nat.ne_of_lt (Nat.lt_of_lt_of_le (by have := World.block_lt_of_cell? _ _ hx148_0; first | rwa [add_block] at this | exact this) GW147.out)
                              have hn148_2 : ad148.block ≠ gb147 := Nat.ne_of_lt (Nat.lt_of_lt_of_le (by have := World.block_lt_of_cell? _ _ hx148_0; first | rwa [add_block] at this | exact this) GW147.out)
                              have hn148_3 : ad148.block ≠ gb147 := Nat.ne_of_lt (Nat.lt_of_lt_of_le (by have := World.block_lt_of_cell? _ _ hx148_0; first | rwa [add_block] at this | exact this) GW147.out)
                              have hn148_4 : ad148.block ≠ gb147 := Nat.ne_of_lt (Nat.lt_of_lt_of_le (by have := World.block_lt_of_cell? _ _ hx148_0; first | rwa [add_block] at this | exact this) GW147.out)
                              replace hx148_0 := (HB.out.cell (World.block_lt_of_cell? w _ hx148_0)).trans hx148_0
                              replace hx148_0 := (cell_far (p := ⟨gb147, 0, none⟩) (by first | (rw [add_block]; exact hn148_0) | (show (Addr.add _ _).block ≠ _; rw [add_block]; exact hn148_0) | exact hn148_0) (.int .u8 ((rd_T24 l0 x7_2).f0))).trans hx148_0
                              replace hx148_0 := (cell_far (p := ⟨gb147, 1, none⟩) (by first | (rw [add_block]; exact hn148_1) | (show (Addr.add _ _).block ≠ _; rw [add_block]; exact hn148_1) | exact hn148_1) (.int .u8 ((rd_T24 l0 x7_2).f1))).trans hx148_0
                              replace hx148_0 := (cell_far (p := ⟨gb147, 2, none⟩) (by first | (rw [add_block]; exact hn148_2) | (show (Addr.add _ _).block ≠ _; rw [add_block]; exact hn148_2) | exact hn148_2) (.int .u8 ((rd_T24 l0 x7_2).f2))).trans hx148_0
                              replace hx148_0 := (cell_far (p := ⟨gb147, 3, none⟩) (by first | (rw [add_block]; exact hn148_3) | (show (Addr.add _ _).block ≠ _; rw [add_block]; exact hn148_3) | exact hn148_3) (.int .i16 ((rd_T24 l0 x7_2).f3))).trans hx148_0
                              replace hx148_0 := (cell_far (p := ⟨gb147, 4, none⟩) (by first | (rw [add_block]; exact hn148_4) | (show (Addr.add _ _).block ≠ _; rw [add_block]; exact hn148_4) | exact hn148_4) (.int .i32 ((rd_T24 l0 x7_2).f4))).trans hx148_0
                              clear hn148_0
                              clear hn148_1
                              clear hn148_2
                              clear hn148_3
                              clear hn148_4
                              replace p148 := eq_true p148
                              replace q148 := eq_true q148
                              go_wp2
                              go_meet
                              case rel => exact ⟨_, (rdOf false l2 x8_2), (by first | rfl | (simp; done) | (simp [*]; done)), H', ⟨by have := HJ5.out; have := HK2.out; first | omega | exact Nat.le_refl _⟩, ⟨by (with_reducible repeat (first | refine blk_drewN ?_ _ | refine blk_drew ?_ | refine blk_alloc ?_ _)); refine blk_put (cs := #[.int .u8 ((rd_T24 l0 x7_2).f0), .int .u8 ((rd_T24 l0 x7_2).f1), .int .u8 ((rd_T24 l0 x7_2).f2), .int .i16 ((rd_T24 l0 x7_2).f3), .int .i32 0]) ?_ 4 _ rfl; (with_reducible repeat (first | refine blk_drewN ?_ _ | refine blk_drew ?_ | refine blk_alloc ?_ _)); refine blk_put (cs := #[.int .u8 ((rd_T24 l0 x7_2).f0), .int .u8 ((rd_T24 l0 x7_2).f1), .int .u8 ((rd_T24 l0 x7_2).f2), .int .i16 0, .int .i32 0]) ?_ 3 _ rfl; (with_reducible repeat (first | refine blk_drewN ?_ _ | refine blk_drew ?_ | refine blk_alloc ?_ _)); refine blk_put (cs := #[.int .u8 ((rd_T24 l0 x7_2).f0), .int .u8 ((rd_T24 l0 x7_2).f1), .int .u8 0, .int .i16 0, .int .i32 0]) ?_ 2 _ rfl; (with_reducible repeat (first | refine blk_drewN ?_ _ | refine blk_drew ?_ | refine blk_alloc ?_ _)); refine blk_put (cs := #[.int .u8 ((rd_T24 l0 x7_2).f0), .int .u8 0, .int .u8 0, .int .i16 0, .int .i32 0]) ?_ 1 _ rfl; (with_reducible repeat (first | refine blk_drewN ?_ _ | refine blk_drew ?_ | refine blk_alloc ?_ _)); refine blk_put (cs := #[.int .u8 0, .int .u8 0, .int .u8 0, .int .i16 0, .int .i32 0]) ?_ 0 _ rfl; (with_reducible repeat (first | refine blk_drewN ?_ _ | refine blk_drew ?_ | refine blk_alloc ?_ _)); exact BK147.out⟩, ⟨by repeat (first | (with_reducible first | exact HB.out | apply below_alloc | apply pw_below_drewN | apply below_drew1 | refine below_set ?_ GE147.out) | exact HB.out)⟩⟩
                            · rw [if_neg c23] at H
                              exact absurd H (by simp)
                          · rw [if_neg c22] at H
                            have c22b0 : decide (x8_2 < (l2.length : Int)) = false := decide_eq_false c22
                            clear c22
                            (first | rw [c22b0] | (simp only [i64_w, i32_w]; rw [c22b0]) | skip)
                            have H' := Aside0.mk H
                            clear H
                            go_wp2
                            go_meet
                            case rel => exact ⟨_, (false), (by first | rfl | (simp; done) | (simp [*]; done)), H', ⟨by have := HJ5.out; have := HK2.out; first | omega | exact Nat.le_refl _⟩, ⟨by (with_reducible repeat (first | refine blk_drewN ?_ _ | refine blk_drew ?_ | refine blk_alloc ?_ _)); refine blk_put (cs := #[.int .u8 ((rd_T24 l0 x7_2).f0), .int .u8 ((rd_T24 l0 x7_2).f1), .int .u8 ((rd_T24 l0 x7_2).f2), .int .i16 ((rd_T24 l0 x7_2).f3), .int .i32 0]) ?_ 4 _ rfl; (with_reducible repeat (first | refine blk_drewN ?_ _ | refine blk_drew ?_ | refine blk_alloc ?_ _)); refine blk_put (cs := #[.int .u8 ((rd_T24 l0 x7_2).f0), .int .u8 ((rd_T24 l0 x7_2).f1), .int .u8 ((rd_T24 l0 x7_2).f2), .int .i16 0, .int .i32 0]) ?_ 3 _ rfl; (with_reducible repeat (first | refine blk_drewN ?_ _ | refine blk_drew ?_ | refine blk_alloc ?_ _)); refine blk_put (cs := #[.int .u8 ((rd_T24 l0 x7_2).f0), .int .u8 ((rd_T24 l0 x7_2).f1), .int .u8 0, .int .i16 0, .int .i32 0]) ?_ 2 _ rfl; (with_reducible repeat (first | refine blk_drewN ?_ _ | refine blk_drew ?_ | refine blk_alloc ?_ _)); refine blk_put (cs := #[.int .u8 ((rd_T24 l0 x7_2).f0), .int .u8 0, .int .u8 0, .int .i16 0, .int .i32 0]) ?_ 1 _ rfl; (with_reducible repeat (first | refine blk_drewN ?_ _ | refine blk_drew ?_ | refine blk_alloc ?_ _)); refine blk_put (cs := #[.int .u8 0, .int .u8 0, .int .u8 0, .int .i16 0, .int .i32 0]) ?_ 0 _ rfl; (with_reducible repeat (first | refine blk_drewN ?_ _ | refine blk_drew ?_ | refine blk_alloc ?_ _)); exact BK147.out⟩, ⟨by repeat (first | (with_reducible first | exact HB.out | apply below_alloc | apply pw_below_drewN | apply below_drew1 | refine below_set ?_ GE147.out) | exact HB.out)⟩⟩
                        case rest =>
                          clear HC19
                          try clear c1
                          try clear p1
                          try clear q1
                          try clear hx1
                          try clear c2
                          try clear p2
                          try clear c5
                          try clear c8
                          try clear c8b0
                          try clear c8b1
                          try clear c9
                          try clear c11
                          try clear c12
                          try clear c12b0
                          try clear c13
                          try clear c13b0
                          try clear c14
                          try clear c14b0
                          try clear p14
                          try clear q14
                          try clear hx14
                          try clear c15
                          try clear c15b0
                          try clear c16
                          try clear c16b0
                          try clear c16b1
                          try clear c22
                          try clear c22b0
                          try clear c23
                          try clear c23b0
                          try clear hcz18_0
                          try clear hcz18_1
                          try clear hcz18_2
                          try clear hcz18_3
                          try clear hcz18_4
                          try clear hcz21_0
                          try clear hcz21_1
                          try clear hcz21_2
                          try clear hcz21_3
                          try clear hcz21_4
                          try clear hfz18_0
                          try clear hfz18_1
                          try clear hfz18_2
                          try clear hfz18_3
                          try clear hfz18_4
                          try clear hfz21_0
                          try clear hfz21_1
                          try clear hfz21_2
                          try clear hfz21_3
                          try clear hfz21_4
                          try clear hx146_0
                          try clear hx146_1
                          try clear hx146_2
                          try clear hx146_3
                          try clear hx146_4
                          try clear hx148_0
                          try clear p146
                          try clear p148
                          try clear p2
                          try clear q146
                          try clear q148
                          obtain ⟨kq, x10_18, rfl, HA, HJ18, BK147, HB⟩ := hcut
                          cases kq with
                          | zero => exact absurd HA.out (by simp [halberdlaw03_IsaEnds.j2])
                          | succ kj18 =>
                            have H := HA.out
                            clear HA
                            simp only [halberdlaw03_IsaEnds.j2] at H
                            by_cases c24 : ((rd_T24 l0 x7_2).f0) = 24
                            · rw [if_pos c24] at H
                              have c24b0 : (((rd_T24 l0 x7_2).f0) == 24) = true := beq_iff_eq.mpr c24
                              have c24b1 : (((rd_T24 l0 x7_2).f0) != 24) = false := bne_eq_false_iff_eq.mpr c24
                              clear c24
                              have H' := Aside0.mk H
                              clear H
                              have hcz25_0 : wc.cell? ⟨gb147, 0, none⟩ = some (.int .u8 ((rd_T24 l0 x7_2).f0)) := (blk_cell BK147.out 0).trans rfl
                              have hcz25_1 : wc.cell? ⟨gb147, 1, none⟩ = some (.int .u8 ((rd_T24 l0 x7_2).f1)) := (blk_cell BK147.out 1).trans rfl
                              have hcz25_2 : wc.cell? ⟨gb147, 2, none⟩ = some (.int .u8 ((rd_T24 l0 x7_2).f2)) := (blk_cell BK147.out 2).trans rfl
                              have hcz25_3 : wc.cell? ⟨gb147, 3, none⟩ = some (.int .i16 ((rd_T24 l0 x7_2).f3)) := (blk_cell BK147.out 3).trans rfl
                              have hcz25_4 : wc.cell? ⟨gb147, 4, none⟩ = some (.int .i32 ((rd_T24 l0 x7_2).f4)) := (blk_cell BK147.out 4).trans rfl
                              have hfz25_0 := blk_frozen BK147.out 0
                              have hfz25_1 := blk_frozen BK147.out 1
                              have hfz25_2 := blk_frozen BK147.out 2
                              have hfz25_3 := blk_frozen BK147.out 3
                              have hfz25_4 := blk_frozen BK147.out 4
                              go_wp2
                              go_roundg kj18
                              case measure => have := HJ5.out; have := HK2.out; have := HJ18.out; omega
                              case rel => exact ⟨(wrap64 (x7_2 + 2)), (wrap64 (x8_2 + 1)), (by first | rfl | (simp; done) | (simp [*]; done)), (by first | rfl | (simp; done) | (simp [*]; done)), H', ⟨by have := HJ5.out; have := HK2.out; have := HJ18.out; omega⟩, ⟨by repeat (first | (with_reducible first | exact HB.out | apply below_alloc | apply pw_below_drewN | apply below_drew1 | refine below_set ?_ GE147.out) | exact HB.out)⟩⟩
                            · rw [if_neg c24] at H
                              have c24b0 : (((rd_T24 l0 x7_2).f0) == 24) = false := beq_eq_false_iff_ne.mpr c24
                              have c24b1 : (((rd_T24 l0 x7_2).f0) != 24) = true := bne_iff_ne.mpr c24
                              by_cases c26 : ((rd_T24 l0 x7_2).f0) = 5
                              · rw [if_pos c26] at H
                                have c26b0 : (((rd_T24 l0 x7_2).f0) == 5) = true := beq_iff_eq.mpr c26
                                have c26b1 : (((rd_T24 l0 x7_2).f0) != 5) = false := bne_eq_false_iff_eq.mpr c26
                                clear c26
                                have H' := Aside0.mk H
                                clear H
                                have hcz27_0 : wc.cell? ⟨gb147, 0, none⟩ = some (.int .u8 ((rd_T24 l0 x7_2).f0)) := (blk_cell BK147.out 0).trans rfl
                                have hcz27_1 : wc.cell? ⟨gb147, 1, none⟩ = some (.int .u8 ((rd_T24 l0 x7_2).f1)) := (blk_cell BK147.out 1).trans rfl
                                have hcz27_2 : wc.cell? ⟨gb147, 2, none⟩ = some (.int .u8 ((rd_T24 l0 x7_2).f2)) := (blk_cell BK147.out 2).trans rfl
                                have hcz27_3 : wc.cell? ⟨gb147, 3, none⟩ = some (.int .i16 ((rd_T24 l0 x7_2).f3)) := (blk_cell BK147.out 3).trans rfl
                                have hcz27_4 : wc.cell? ⟨gb147, 4, none⟩ = some (.int .i32 ((rd_T24 l0 x7_2).f4)) := (blk_cell BK147.out 4).trans rfl
                                have hfz27_0 := blk_frozen BK147.out 0
                                have hfz27_1 := blk_frozen BK147.out 1
                                have hfz27_2 := blk_frozen BK147.out 2
                                have hfz27_3 := blk_frozen BK147.out 3
                                have hfz27_4 := blk_frozen BK147.out 4
                                go_wp2
                                go_roundg kj18
                                case measure => have := HJ5.out; have := HK2.out; have := HJ18.out; omega
                                case rel => exact ⟨(wrap64 ((wrap64 (x7_2 + 1)) + (wrap64 (((rd_T24 l0 x7_2).f3))))), (wrap64 (x8_2 + 1)), (by first | rfl | (simp; done) | (simp [*]; done)), (by first | rfl | (simp; done) | (simp [*]; done)), H', ⟨by have := HJ5.out; have := HK2.out; have := HJ18.out; omega⟩, ⟨by repeat (first | (with_reducible first | exact HB.out | apply below_alloc | apply pw_below_drewN | apply below_drew1 | refine below_set ?_ GE147.out) | exact HB.out)⟩⟩
                              · rw [if_neg c26] at H
                                have c26b0 : (((rd_T24 l0 x7_2).f0) == 5) = false := beq_eq_false_iff_ne.mpr c26
                                have c26b1 : (((rd_T24 l0 x7_2).f0) != 5) = true := bne_iff_ne.mpr c26
                                replace H := Option.bind_eq_some_iff.mp H
                                obtain ⟨t149, A280, H⟩ := H
                                replace H : (if t149 = true then (if x10_18 = true then (halberdlaw03_IsaEnds.l0 kj18 l0 l2 (wrap64 ((wrap64 (x7_2 + 1)) + (wrap64 (((rd_T24 l0 x7_2).f3))))) (wrap64 (x8_2 + 1))) else (halberdlaw03_IsaEnds.l0 kj18 l0 l2 (wrap64 (x7_2 + 1)) (wrap64 (x8_2 + 1)))) else (halberdlaw03_IsaEnds.l0 kj18 l0 l2 (wrap64 (x7_2 + 1)) (wrap64 (x8_2 + 1)))) = some r := H
                                have A28 := Aside0.mk A280
                                clear A280
                                by_cases c29 : t149 = true
                                · subst c29
                                  have H1 : (if x10_18 = true then (halberdlaw03_IsaEnds.l0 kj18 l0 l2 (wrap64 ((wrap64 (x7_2 + 1)) + (wrap64 (((rd_T24 l0 x7_2).f3))))) (wrap64 (x8_2 + 1))) else (halberdlaw03_IsaEnds.l0 kj18 l0 l2 (wrap64 (x7_2 + 1)) (wrap64 (x8_2 + 1)))) = some r := by rw [if_pos rfl] at H; exact H
                                  clear H
                                  have H := H1
                                  clear H1
                                  by_cases c30 : x10_18 = true
                                  · subst c30
                                    have H1 : (halberdlaw03_IsaEnds.l0 kj18 l0 l2 (wrap64 ((wrap64 (x7_2 + 1)) + (wrap64 (((rd_T24 l0 x7_2).f3))))) (wrap64 (x8_2 + 1))) = some r := by rw [if_pos rfl] at H; exact H
                                    clear H
                                    have H := H1
                                    clear H1
                                    have H' := Aside0.mk H
                                    clear H
                                    have hcz31_0 : wc.cell? ⟨gb147, 0, none⟩ = some (.int .u8 ((rd_T24 l0 x7_2).f0)) := (blk_cell BK147.out 0).trans rfl
                                    have hcz31_1 : wc.cell? ⟨gb147, 1, none⟩ = some (.int .u8 ((rd_T24 l0 x7_2).f1)) := (blk_cell BK147.out 1).trans rfl
                                    have hcz31_2 : wc.cell? ⟨gb147, 2, none⟩ = some (.int .u8 ((rd_T24 l0 x7_2).f2)) := (blk_cell BK147.out 2).trans rfl
                                    have hcz31_3 : wc.cell? ⟨gb147, 3, none⟩ = some (.int .i16 ((rd_T24 l0 x7_2).f3)) := (blk_cell BK147.out 3).trans rfl
                                    have hcz31_4 : wc.cell? ⟨gb147, 4, none⟩ = some (.int .i32 ((rd_T24 l0 x7_2).f4)) := (blk_cell BK147.out 4).trans rfl
                                    have hfz31_0 := blk_frozen BK147.out 0
                                    have hfz31_1 := blk_frozen BK147.out 1
                                    have hfz31_2 := blk_frozen BK147.out 2
                                    have hfz31_3 := blk_frozen BK147.out 3
                                    have hfz31_4 := blk_frozen BK147.out 4
                                    go_wp2_with (first | (go_at_call 20; (with_reducible refine (halberdref03_Conditional.calls ((rd_T24 l0 x7_2).f0) true _ A28.out).mono ?_); rintro e w' ⟨rfl, ⟨nd, rfl⟩⟩))
                                    go_roundg kj18
                                    case measure => have := HJ5.out; have := HK2.out; have := HJ18.out; omega
                                    case rel => exact ⟨(wrap64 ((wrap64 (x7_2 + 1)) + (wrap64 (((rd_T24 l0 x7_2).f3))))), (wrap64 (x8_2 + 1)), (by first | rfl | (simp; done) | (simp [*]; done)), (by first | rfl | (simp; done) | (simp [*]; done)), H', ⟨by have := HJ5.out; have := HK2.out; have := HJ18.out; omega⟩, ⟨by repeat (first | (with_reducible first | exact HB.out | apply below_alloc | apply pw_below_drewN | apply below_drew1 | refine below_set ?_ GE147.out) | exact HB.out)⟩⟩
                                  · replace c30 := Bool.eq_false_iff.mpr c30
                                    subst c30
                                    have H1 : (halberdlaw03_IsaEnds.l0 kj18 l0 l2 (wrap64 (x7_2 + 1)) (wrap64 (x8_2 + 1))) = some r := by rw [if_neg (show ¬ (false = true) by decide)] at H; exact H
                                    clear H
                                    have H := H1
                                    clear H1
                                    have H' := Aside0.mk H
                                    clear H
                                    have hcz32_0 : wc.cell? ⟨gb147, 0, none⟩ = some (.int .u8 ((rd_T24 l0 x7_2).f0)) := (blk_cell BK147.out 0).trans rfl
                                    have hcz32_1 : wc.cell? ⟨gb147, 1, none⟩ = some (.int .u8 ((rd_T24 l0 x7_2).f1)) := (blk_cell BK147.out 1).trans rfl
                                    have hcz32_2 : wc.cell? ⟨gb147, 2, none⟩ = some (.int .u8 ((rd_T24 l0 x7_2).f2)) := (blk_cell BK147.out 2).trans rfl
                                    have hcz32_3 : wc.cell? ⟨gb147, 3, none⟩ = some (.int .i16 ((rd_T24 l0 x7_2).f3)) := (blk_cell BK147.out 3).trans rfl
                                    have hcz32_4 : wc.cell? ⟨gb147, 4, none⟩ = some (.int .i32 ((rd_T24 l0 x7_2).f4)) := (blk_cell BK147.out 4).trans rfl
                                    have hfz32_0 := blk_frozen BK147.out 0
                                    have hfz32_1 := blk_frozen BK147.out 1
                                    have hfz32_2 := blk_frozen BK147.out 2
                                    have hfz32_3 := blk_frozen BK147.out 3
                                    have hfz32_4 := blk_frozen BK147.out 4
                                    go_wp2_with (first | (go_at_call 20; (with_reducible refine (halberdref03_Conditional.calls ((rd_T24 l0 x7_2).f0) true _ A28.out).mono ?_); rintro e w' ⟨rfl, ⟨nd, rfl⟩⟩))
                                    go_roundg kj18
                                    case measure => have := HJ5.out; have := HK2.out; have := HJ18.out; omega
                                    case rel => exact ⟨(wrap64 (x7_2 + 1)), (wrap64 (x8_2 + 1)), (by first | rfl | (simp; done) | (simp [*]; done)), (by first | rfl | (simp; done) | (simp [*]; done)), H', ⟨by have := HJ5.out; have := HK2.out; have := HJ18.out; omega⟩, ⟨by repeat (first | (with_reducible first | exact HB.out | apply below_alloc | apply pw_below_drewN | apply below_drew1 | refine below_set ?_ GE147.out) | exact HB.out)⟩⟩
                                · replace c29 := Bool.eq_false_iff.mpr c29
                                  subst c29
                                  have H1 : (halberdlaw03_IsaEnds.l0 kj18 l0 l2 (wrap64 (x7_2 + 1)) (wrap64 (x8_2 + 1))) = some r := by rw [if_neg (show ¬ (false = true) by decide)] at H; exact H
                                  clear H
                                  have H := H1
                                  clear H1
                                  have H' := Aside0.mk H
                                  clear H
                                  have hcz33_0 : wc.cell? ⟨gb147, 0, none⟩ = some (.int .u8 ((rd_T24 l0 x7_2).f0)) := (blk_cell BK147.out 0).trans rfl
                                  have hcz33_1 : wc.cell? ⟨gb147, 1, none⟩ = some (.int .u8 ((rd_T24 l0 x7_2).f1)) := (blk_cell BK147.out 1).trans rfl
                                  have hcz33_2 : wc.cell? ⟨gb147, 2, none⟩ = some (.int .u8 ((rd_T24 l0 x7_2).f2)) := (blk_cell BK147.out 2).trans rfl
                                  have hcz33_3 : wc.cell? ⟨gb147, 3, none⟩ = some (.int .i16 ((rd_T24 l0 x7_2).f3)) := (blk_cell BK147.out 3).trans rfl
                                  have hcz33_4 : wc.cell? ⟨gb147, 4, none⟩ = some (.int .i32 ((rd_T24 l0 x7_2).f4)) := (blk_cell BK147.out 4).trans rfl
                                  have hfz33_0 := blk_frozen BK147.out 0
                                  have hfz33_1 := blk_frozen BK147.out 1
                                  have hfz33_2 := blk_frozen BK147.out 2
                                  have hfz33_3 := blk_frozen BK147.out 3
                                  have hfz33_4 := blk_frozen BK147.out 4
                                  go_wp2_with (first | (go_at_call 20; (with_reducible refine (halberdref03_Conditional.calls ((rd_T24 l0 x7_2).f0) false _ A28.out).mono ?_); rintro e w' ⟨rfl, ⟨nd, rfl⟩⟩))
                                  go_roundg kj18
                                  case measure => have := HJ5.out; have := HK2.out; have := HJ18.out; omega
                                  case rel => exact ⟨(wrap64 (x7_2 + 1)), (wrap64 (x8_2 + 1)), (by first | rfl | (simp; done) | (simp [*]; done)), (by first | rfl | (simp; done) | (simp [*]; done)), H', ⟨by have := HJ5.out; have := HK2.out; have := HJ18.out; omega⟩, ⟨by repeat (first | (with_reducible first | exact HB.out | apply below_alloc | apply pw_below_drewN | apply below_drew1 | refine below_set ?_ GE147.out) | exact HB.out)⟩⟩
                    · rw [if_neg c15] at H
                      exact absurd H (by simp)
                  · rw [if_neg c14] at H
                    exact absurd H (by simp)
              · rw [if_neg c12] at H
                have c12b0 : decide (x8_2 < (l0.length : Int)) = false := decide_eq_false c12
                clear c12
                exact absurd (Option.some.inj H) (by rw [hr_.out]; decide)
  · replace c5 := Bool.eq_false_iff.mpr c5
    subst c5
    have H1 : (some false) = some r := by rw [if_neg (show ¬ (false = true) by decide)] at H; exact H
    clear H
    have H := H1
    clear H1
    exact absurd (Option.some.inj H) (by rw [hr_.out]; decide)

/-- THE ONE PURE STATEMENT of halberdlaw03_IsaEnds. -/
def halberdlaw03_IsaEnds.Pure : Prop := ∀ (l0 : List (S24)) (a1 : Int) (l2 : List Bool), (l0.length ≤ maxLen ∧ l0.length * 12 ≤ 140737488351232 ∧ ∀ y_ ∈ l0, ((Lit.int .u8 y_.f0).wf = true) ∧ ((Lit.int .u8 y_.f1).wf = true) ∧ ((Lit.int .u8 y_.f2).wf = true) ∧ ((Lit.int .i16 y_.f3).wf = true) ∧ ((Lit.int .i32 y_.f4).wf = true)) → ((Lit.int .i64 a1).wf = true) → (l2.length ≤ maxLen ∧ l2.length * 1 ≤ 140737488351232 ∧ ∀ y_ ∈ l2, True) → ∃ k, halberdlaw03_IsaEnds.f k l0 a1 l2 = some true

end Go.Proofs.Ytkbngkhajkhfgaa.PIsaEnds
