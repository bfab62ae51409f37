/- Functions of the program that some laws reach, as Lean functions, and proofs that the program's calls come to what they say: written by a program, for the texts that import it; each theorem bears its own conditions. -/
import Derived.Test.YtdojdjafleaedaaPNumHasx0
import Derived.Test.YtdojdjafleaedaaPNumHasx1
import Derived.Test.YtdojdjafleaedaaPNumHasx2
import Derived.Test.YtdojdjafleaedaaPNumHasx3
import Derived.Test.YtdojdjafleaedaaPNumHasx4
namespace Go.Proofs.Ytdojdjafleaedaa.PNumHas
open Go.RowKit Go.Proofs.YtdojdjafleaedaaW.PrintWords Go.Proofs.YtdojdjafleaedaaW.PrintLast Go.Proofs.YtdojdjafleaedaaW.PrintMore
attribute [local go_sem] max2_int min2_int max_two min_two max_three min_three max_four min_four   -- for this text's walks alone
set_option linter.unusedVariables false
set_option linter.unusedSimpArgs false

attribute [local go_sem high] eqA36
/-! ### halberdlaw07_NumHas: function 9 -/
def halberdlaw07_NumHas.j0 : Nat → Int → Bool → Int → Int → Int → Int → Int → Int → Option (Bool)
  | 0, _, _, _, _, _, _, _, _ => none
  | k + 1, x1, x37, x237000, x237001, x237002, x237003, x237004, x237005 => if x37 = true then (some false) else ((num_Has.f x237000 x237001 x237002 x237003 x237004 x237005 x1).bind fun t240 => ((halberdref07_Has.f k x237000 x237001 x237002 x237003 x237004 x237005 x1).bind fun t241 => (if (t240 == t241) = true then ((num_Const.f x1).bind fun bt242 => ((halberdref07_Const.f x1).bind fun bt248 => (if ((bt242.1 == bt248.1 && (bt242.2.1 == bt248.2.1)) && (bt242.2.2.1 == bt248.2.2.1 && (bt242.2.2.2.1 == bt248.2.2.2.1 && (bt242.2.2.2.2.1 == bt248.2.2.2.2.1 && (bt242.2.2.2.2.2 == bt248.2.2.2.2.2))))) = true then ((num_All.f).bind fun bt254 => ((halberdref07_All.f).bind fun bt260 => (some ((bt254.1 == bt260.1 && (bt254.2.1 == bt260.2.1)) && (bt254.2.2.1 == bt260.2.2.1 && (bt254.2.2.2.1 == bt260.2.2.2.1 && (bt254.2.2.2.2.1 == bt260.2.2.2.2.1 && (bt254.2.2.2.2.2 == bt260.2.2.2.2.2)))))))) else (some false)))) else (some false))))
def halberdlaw07_NumHas.f (k : Nat) (a0_0 : Int) (a0_1 : Int) (a0_2 : Int) (a0_3 : Int) (a0_4 : Int) (a0_5 : Int) (a1 : Int) : Option (Bool) := (halberdlaw07_alive.f k).bind fun t237 => (if t237 = true then ((num_IsConst.f a0_0 a0_1 a0_2 a0_3 a0_4 a0_5).bind fun bt238 => (if (bt238.2 != (a0_1 == 0)) = true then (halberdlaw07_NumHas.j0 k a1 true a0_0 a0_1 a0_2 a0_3 a0_4 a0_5) else (if bt238.2 = true then (if bt238.1 = a0_0 then (halberdlaw07_NumHas.j0 k a1 false a0_0 a0_1 a0_2 a0_3 a0_4 a0_5) else (halberdlaw07_NumHas.j0 k a1 true a0_0 a0_1 a0_2 a0_3 a0_4 a0_5)) else (halberdlaw07_NumHas.j0 k a1 (bt238.1 != 0) a0_0 a0_1 a0_2 a0_3 a0_4 a0_5)))) else (some false))
theorem halberdlaw07_NumHas.mono_l : ∀ k, (∀ y0 y1 y2 y3 y4 y5 y6 y7, LeO (halberdlaw07_NumHas.j0 k y0 y1 y2 y3 y4 y5 y6 y7) (halberdlaw07_NumHas.j0 (k + 1) y0 y1 y2 y3 y4 y5 y6 y7))
  | 0 => fun _ _ _ _ _ _ _ _ r h => by simp [halberdlaw07_NumHas.j0] at h
  | k + 1 => by
    have ih0 := halberdlaw07_NumHas.mono_l k
    · intro y0 y1 y2 y3 y4 y5 y6 y7
      unfold halberdlaw07_NumHas.j0
      repeat' first
      | (with_reducible exact ih0 _ _ _ _ _ _ _ _)
      | (with_reducible exact halberdlaw07_alive.mono _)
      | (with_reducible exact halberdref07_Has.mono _ _ _ _ _ _ _ _)
      | (with_reducible exact LeO.refl _)
      | (with_reducible exact LeO.none _)
      | (with_reducible refine LeO.ite ?_ ?_)
      | (with_reducible refine LeO.bind ?_ (fun _ => ?_))
      | exact ih0 _ _ _ _ _ _ _ _
      | exact halberdlaw07_alive.mono _
      | exact halberdref07_Has.mono _ _ _ _ _ _ _ _
      | exact LeO.none _
      | refine LeO.ite ?_ ?_
      | refine LeO.bind ?_ (fun _ => ?_)
theorem halberdlaw07_NumHas.mono : ∀ a0 a1 a2 a3 a4 a5 a6 k, LeO (halberdlaw07_NumHas.f k a0 a1 a2 a3 a4 a5 a6) (halberdlaw07_NumHas.f (k + 1) a0 a1 a2 a3 a4 a5 a6) := by
  intro a0 a1 a2 a3 a4 a5 a6 k
  have ih0 := halberdlaw07_NumHas.mono_l k
  unfold halberdlaw07_NumHas.f
  repeat' first
      | (with_reducible exact ih0 _ _ _ _ _ _ _ _)
      | (with_reducible exact halberdlaw07_alive.mono _)
      | (with_reducible exact halberdref07_Has.mono _ _ _ _ _ _ _ _)
      | (with_reducible exact LeO.refl _)
      | (with_reducible exact LeO.none _)
      | (with_reducible refine LeO.ite ?_ ?_)
      | (with_reducible refine LeO.bind ?_ (fun _ => ?_))
      | exact ih0 _ _ _ _ _ _ _ _
      | exact halberdlaw07_alive.mono _
      | exact halberdref07_Has.mono _ _ _ _ _ _ _ _
      | exact LeO.none _
      | refine LeO.ite ?_ ?_
      | refine LeO.bind ?_ (fun _ => ?_)
def halberdlaw07_NumHas.T6 : Bool × List (List Nat × List Nat) := (true, [([], []), ([], []), ([0, 1], [0, 1]), ([], []), ([], []), ([3, 4, 2], [3, 4]), ([2, 5], [2, 5]), ([6, 5], [6]), ([7], [7]), ([8, 7, 7], [7, 8]), ([7], [7]), ([10, 9, 7], [7, 10]), ([9, 11, 7], [7, 9, 11]), ([7, 12], [7, 12]), ([13, 11], [13]), ([14, 14], [14]), ([15, 14], [14]), ([15, 16, 14], [14, 15, 16]), ([14, 17], [14, 17]), ([18, 16, 0, 1, 2, 3, 4, 5, 6, 7, 8, 9, 10, 11, 12, 13, 14, 15, 16, 17, 18], [18])])
def halberdlaw07_NumHas.B6 : List Nat := [0, 0, 3, 0, 0, 31, 63, 127, 255, 511, 255, 2047, 4095, 8191, 16383, 32767, 65535, 131071, 262143, 524287]
theorem halberdlaw07_NumHas.tab6 : rtab .any (opsOf Try.f9 6) = halberdlaw07_NumHas.T6 := by kernel_rfl
theorem halberdlaw07_NumHas.bits6 : waitsOk halberdlaw07_NumHas.T6.2 halberdlaw07_NumHas.B6 = true := by kernel_rfl
set_option maxHeartbeats 8000000 in
set_option maxRecDepth 100000 in
theorem halberdlaw07_NumHas.calls (k : Nat) (a0_0 : Int) (a0_1 : Int) (a0_2 : Int) (a0_3 : Int) (a0_4 : Int) (a0_5 : Int) (a1 : Int) (r : Bool) (w : World) (hr_ : Aside0 (r = true)) (h : halberdlaw07_NumHas.f k a0_0 a0_1 a0_2 a0_3 a0_4 a0_5 a1 = some r) :
    Calls Try.prog 9 #[.agg #[.int .u64 a0_0, .int .u64 a0_1, .int .u64 a0_2, .int .u64 a0_3, .int .i64 a0_4, .int .i64 a0_5], .int .u64 a1] w fun e w' => e = .returned (.bool r) ∧ Below w.heap.size w w' := by
  have hu36 := Try.underlying36
  have HB := Aside0.mk (Below.refl w.heap.size w)
  have H : ((halberdlaw07_alive.f k).bind fun t237 => (if t237 = true then ((num_IsConst.f a0_0 a0_1 a0_2 a0_3 a0_4 a0_5).bind fun bt238 => (if (bt238.2 != (a0_1 == 0)) = true then (halberdlaw07_NumHas.j0 k a1 true a0_0 a0_1 a0_2 a0_3 a0_4 a0_5) else (if bt238.2 = true then (if bt238.1 = a0_0 then (halberdlaw07_NumHas.j0 k a1 false a0_0 a0_1 a0_2 a0_3 a0_4 a0_5) else (halberdlaw07_NumHas.j0 k a1 true a0_0 a0_1 a0_2 a0_3 a0_4 a0_5)) else (halberdlaw07_NumHas.j0 k a1 (bt238.1 != 0) a0_0 a0_1 a0_2 a0_3 a0_4 a0_5)))) else (some false))) = some r := h
  clear h
  replace H := Option.bind_eq_some_iff.mp H
  obtain ⟨t237, A30, H⟩ := H
  replace H : (if t237 = true then ((num_IsConst.f a0_0 a0_1 a0_2 a0_3 a0_4 a0_5).bind fun bt238 => (if (bt238.2 != (a0_1 == 0)) = true then (halberdlaw07_NumHas.j0 k a1 true a0_0 a0_1 a0_2 a0_3 a0_4 a0_5) else (if bt238.2 = true then (if bt238.1 = a0_0 then (halberdlaw07_NumHas.j0 k a1 false a0_0 a0_1 a0_2 a0_3 a0_4 a0_5) else (halberdlaw07_NumHas.j0 k a1 true a0_0 a0_1 a0_2 a0_3 a0_4 a0_5)) else (halberdlaw07_NumHas.j0 k a1 (bt238.1 != 0) a0_0 a0_1 a0_2 a0_3 a0_4 a0_5)))) else (some false)) = some r := H
  have A3 := Aside0.mk A30
  clear A30
  by_cases c4 : t237 = true
  · subst c4
    have H1 : ((num_IsConst.f a0_0 a0_1 a0_2 a0_3 a0_4 a0_5).bind fun bt238 => (if (bt238.2 != (a0_1 == 0)) = true then (halberdlaw07_NumHas.j0 k a1 true a0_0 a0_1 a0_2 a0_3 a0_4 a0_5) else (if bt238.2 = true then (if bt238.1 = a0_0 then (halberdlaw07_NumHas.j0 k a1 false a0_0 a0_1 a0_2 a0_3 a0_4 a0_5) else (halberdlaw07_NumHas.j0 k a1 true a0_0 a0_1 a0_2 a0_3 a0_4 a0_5)) else (halberdlaw07_NumHas.j0 k a1 (bt238.1 != 0) a0_0 a0_1 a0_2 a0_3 a0_4 a0_5)))) = some r := by rw [if_pos rfl] at H; exact H
    clear H
    have H := H1
    clear H1
    replace H := Option.bind_eq_some_iff.mp H
    obtain ⟨⟨t238, t239⟩, A50, H⟩ := H
    replace H : (if (t239 != (a0_1 == 0)) = true then (halberdlaw07_NumHas.j0 k a1 true a0_0 a0_1 a0_2 a0_3 a0_4 a0_5) else (if t239 = true then (if t238 = a0_0 then (halberdlaw07_NumHas.j0 k a1 false a0_0 a0_1 a0_2 a0_3 a0_4 a0_5) else (halberdlaw07_NumHas.j0 k a1 true a0_0 a0_1 a0_2 a0_3 a0_4 a0_5)) else (halberdlaw07_NumHas.j0 k a1 (t238 != 0) a0_0 a0_1 a0_2 a0_3 a0_4 a0_5))) = some r := H
    have A5 := Aside0.mk A50
    clear A50
    have HC6 := Aside0.mk H
    clear H
    go_enter Try.func9, Try.ntmps9
    go_upto_region 4 with (first | ((with_reducible refine gate_dst (N := 2) rfl ?_); refine box_event ?hg (N := 2) ?hd (cs := #[.int .u64 a0_0, .int .u64 a0_1, .int .u64 a0_2, .int .u64 a0_3, .int .i64 a0_4, .int .i64 a0_5]) (t := 36) ?hr ?_; (case hd => rfl); (case hg => rfl); (case hr => first | (go_simp; done) | (go_simp; rfl)); intro gb236 hg w7 hbox hb; have n0_ := Aside0.mk (below_step (by repeat (first | (with_reducible first | exact HB.out | apply below_alloc | apply pw_below_drewN | apply below_drew1) | exact HB.out)) hb); have n1_ := Aside0.mk (hbox); have n2_ := Aside0.mk ((by rw [hg]; exact (below_size (by repeat (first | (with_reducible first | exact HB.out | apply below_alloc | apply pw_below_drewN | apply below_drew1) | exact HB.out))) : w.heap.size ≤ gb236)); have n3_ := Aside0.mk ((by rw [hg]; exact (below_size (by repeat (first | (with_reducible first | exact HB.out | apply below_alloc | apply pw_below_drewN | apply below_drew1) | exact HB.out))) : w.heap.size ≤ gb236)); clear HB; have HB := n0_; have BK236 := n1_; have GW236 := n2_; have GE236 := n3_; clear n0_ n1_ n2_ n3_; clear hb hbox hg) | ((with_reducible refine gate_callee (f := 18) rfl ?_); refine goesL_ (some 7) rfl rfl Try.func18 (by kernel_rfl) rfl #[] rfl (by (try simp only [List.map_toArray, List.map_cons, List.map_nil]); first | done | rfl | (simp only [List.length_drop, List.length_take]; rfl)) ?_; (with_reducible refine (halberdlaw07_alive.calls k  true _ A3.out).mono ?_); rintro e w8 ⟨rfl, hb⟩; refine ⟨_, rfl, ?_⟩; have n0_ := Aside0.mk (blk_below (g := gb236) (o := .cells #[.int .u64 a0_0, .int .u64 a0_1, .int .u64 a0_2, .int .u64 a0_3, .int .i64 a0_4, .int .i64 a0_5] 36 (0, 0)) (by (with_reducible repeat (first | refine blk_drewN ?_ _ | refine blk_drew ?_ | refine blk_alloc ?_ _)); exact BK236.out) hb); have n1_ := Aside0.mk (below_step (by repeat (first | (with_reducible first | exact HB.out | apply below_alloc | apply pw_below_drewN | apply below_drew1 | refine below_set ?_ GE236.out) | exact HB.out)) hb); clear BK236; clear HB; have BK236 := n0_; have HB := n1_; clear n0_ n1_; (try clear hb); (try clear hb2); (try clear hk); (try clear hi); have hcz9_0 : w8.cell? ⟨gb236, 0, none⟩ = some (.int .u64 a0_0) := (blk_cell BK236.out 0).trans rfl; have hcz9_1 : w8.cell? ⟨gb236, 1, none⟩ = some (.int .u64 a0_1) := (blk_cell BK236.out 1).trans rfl; have hcz9_2 : w8.cell? ⟨gb236, 2, none⟩ = some (.int .u64 a0_2) := (blk_cell BK236.out 2).trans rfl; have hcz9_3 : w8.cell? ⟨gb236, 3, none⟩ = some (.int .u64 a0_3) := (blk_cell BK236.out 3).trans rfl; have hcz9_4 : w8.cell? ⟨gb236, 4, none⟩ = some (.int .i64 a0_4) := (blk_cell BK236.out 4).trans rfl; have hcz9_5 : w8.cell? ⟨gb236, 5, none⟩ = some (.int .i64 a0_5) := (blk_cell BK236.out 5).trans rfl; have hfz9_0 := blk_frozen BK236.out 0; have hfz9_1 := blk_frozen BK236.out 1; have hfz9_2 := blk_frozen BK236.out 2; have hfz9_3 := blk_frozen BK236.out 3; have hfz9_4 := blk_frozen BK236.out 4; have hfz9_5 := blk_frozen BK236.out 5) | ((with_reducible refine gate_callee (f := 25) rfl ?_); refine goesL_ (some 11) rfl rfl Try.func25 (by kernel_rfl) rfl #[.agg #[.int .u64 a0_0, .int .u64 a0_1, .int .u64 a0_2, .int .u64 a0_3, .int .i64 a0_4, .int .i64 a0_5]] rfl (by (try simp only [List.map_toArray, List.map_cons, List.map_nil]); first | done | rfl | (simp only [List.length_drop, List.length_take]; rfl)) ?_; (with_reducible refine (num_IsConst.calls a0_0 a0_1 a0_2 a0_3 a0_4 a0_5 t238 t239 _ A5.out).mono ?_); rintro e w10 ⟨rfl, hb⟩; refine ⟨_, rfl, ?_⟩; have n0_ := Aside0.mk (blk_below (g := gb236) (o := .cells #[.int .u64 a0_0, .int .u64 a0_1, .int .u64 a0_2, .int .u64 a0_3, .int .i64 a0_4, .int .i64 a0_5] 36 (0, 0)) (by (with_reducible repeat (first | refine blk_drewN ?_ _ | refine blk_drew ?_ | refine blk_alloc ?_ _)); exact BK236.out) hb); have n1_ := Aside0.mk (below_step (by repeat (first | (with_reducible first | exact HB.out | apply below_alloc | apply pw_below_drewN | apply below_drew1 | refine below_set ?_ GE236.out) | exact HB.out)) hb); clear BK236; clear HB; have BK236 := n0_; have HB := n1_; clear n0_ n1_; (try clear hb); (try clear hb2); (try clear hk); (try clear hi)))
    (try simp only [Act.put, List.setIfInBounds_toArray, List.set_cons_zero, List.set_cons_succ])
    go_cut [37] (fun v37 wc => ∃ (kq : Nat) (x37_5 : Bool), v37 = .bool x37_5 ∧ Aside0 (halberdlaw07_NumHas.j0 kq a1 x37_5 a0_0 a0_1 a0_2 a0_3 a0_4 a0_5 = some r) ∧ Aside0 (kq ≤ k) ∧ Aside0 (wc.heap[gb236]? = some (.cells #[.int .u64 a0_0, .int .u64 a0_1, .int .u64 a0_2, .int .u64 a0_3, .int .i64 a0_4, .int .i64 a0_5] 36 (0, 0))) ∧ Aside0 (Below w.heap.size w wc))
    case first =>
      have H := HC6.out
      clear HC6
      by_cases c11 : (t239 != (a0_1 == 0)) = true
      · rw [if_pos c11] at H
        have c11b0 : (t239 != (a0_1 == 0)) = true := c11
        (try (have c11b1 : decide (t239 = (a0_1 == 0)) = false := by simpa using c11))
        (try (have c11b2 : (t239 == (a0_1 == 0)) = false := by simpa using c11))
        (try (have c11b3 : ¬ (t239 = (a0_1 == 0)) := by simpa using c11))
        clear c11
        (first | rw [c11b0] | (simp only [i64_w, i32_w]; rw [c11b0]) | skip)
        have H' := Aside0.mk H
        clear H
        have hcz12_0 : w10.cell? ⟨gb236, 0, none⟩ = some (.int .u64 a0_0) := (blk_cell BK236.out 0).trans rfl
        have hcz12_1 : w10.cell? ⟨gb236, 1, none⟩ = some (.int .u64 a0_1) := (blk_cell BK236.out 1).trans rfl
        have hcz12_2 : w10.cell? ⟨gb236, 2, none⟩ = some (.int .u64 a0_2) := (blk_cell BK236.out 2).trans rfl
        have hcz12_3 : w10.cell? ⟨gb236, 3, none⟩ = some (.int .u64 a0_3) := (blk_cell BK236.out 3).trans rfl
        have hcz12_4 : w10.cell? ⟨gb236, 4, none⟩ = some (.int .i64 a0_4) := (blk_cell BK236.out 4).trans rfl
        have hcz12_5 : w10.cell? ⟨gb236, 5, none⟩ = some (.int .i64 a0_5) := (blk_cell BK236.out 5).trans rfl
        have hfz12_0 := blk_frozen BK236.out 0
        have hfz12_1 := blk_frozen BK236.out 1
        have hfz12_2 := blk_frozen BK236.out 2
        have hfz12_3 := blk_frozen BK236.out 3
        have hfz12_4 := blk_frozen BK236.out 4
        have hfz12_5 := blk_frozen BK236.out 5
        go_wp2
        go_meet
        case rel => exact ⟨_, (true), (by first | rfl | (simp; done) | (simp [*]; done)), H', ⟨by first | omega | exact Nat.le_refl _⟩, ⟨by (with_reducible repeat (first | refine blk_drewN ?_ _ | refine blk_drew ?_ | refine blk_alloc ?_ _)); exact BK236.out⟩, ⟨by repeat (first | (with_reducible first | exact HB.out | apply below_alloc | apply pw_below_drewN | apply below_drew1 | refine below_set ?_ GE236.out) | exact HB.out)⟩⟩
      · rw [if_neg c11] at H
        have c11b0 : (t239 != (a0_1 == 0)) = false := by simpa using c11
        (try (have c11b1 : decide (t239 = (a0_1 == 0)) = true := by simpa using c11))
        (try (have c11b2 : (t239 == (a0_1 == 0)) = true := by simpa using c11))
        clear c11
        (first | rw [c11b0] | (simp only [i64_w, i32_w]; rw [c11b0]) | skip)
        by_cases c13 : t239 = true
        · subst c13
          have H1 : (if t238 = a0_0 then (halberdlaw07_NumHas.j0 k a1 false a0_0 a0_1 a0_2 a0_3 a0_4 a0_5) else (halberdlaw07_NumHas.j0 k a1 true a0_0 a0_1 a0_2 a0_3 a0_4 a0_5)) = some r := by rw [if_pos rfl] at H; exact H
          clear H
          have H := H1
          clear H1
          by_cases c14 : t238 = a0_0
          · rw [if_pos c14] at H
            have c14b0 : (t238 == a0_0) = true := beq_iff_eq.mpr c14
            have c14b1 : (t238 != a0_0) = false := bne_eq_false_iff_eq.mpr c14
            clear c14
            have H' := Aside0.mk H
            clear H
            have hcz15_0 : w10.cell? ⟨gb236, 0, none⟩ = some (.int .u64 a0_0) := (blk_cell BK236.out 0).trans rfl
            have hcz15_1 : w10.cell? ⟨gb236, 1, none⟩ = some (.int .u64 a0_1) := (blk_cell BK236.out 1).trans rfl
            have hcz15_2 : w10.cell? ⟨gb236, 2, none⟩ = some (.int .u64 a0_2) := (blk_cell BK236.out 2).trans rfl
            have hcz15_3 : w10.cell? ⟨gb236, 3, none⟩ = some (.int .u64 a0_3) := (blk_cell BK236.out 3).trans rfl
            have hcz15_4 : w10.cell? ⟨gb236, 4, none⟩ = some (.int .i64 a0_4) := (blk_cell BK236.out 4).trans rfl
            have hcz15_5 : w10.cell? ⟨gb236, 5, none⟩ = some (.int .i64 a0_5) := (blk_cell BK236.out 5).trans rfl
            have hfz15_0 := blk_frozen BK236.out 0
            have hfz15_1 := blk_frozen BK236.out 1
            have hfz15_2 := blk_frozen BK236.out 2
            have hfz15_3 := blk_frozen BK236.out 3
            have hfz15_4 := blk_frozen BK236.out 4
            have hfz15_5 := blk_frozen BK236.out 5
            go_wp2
            go_meet
            case rel => exact ⟨_, (false), (by first | rfl | (simp; done) | (simp [*]; done)), H', ⟨by first | omega | exact Nat.le_refl _⟩, ⟨by (with_reducible repeat (first | refine blk_drewN ?_ _ | refine blk_drew ?_ | refine blk_alloc ?_ _)); exact BK236.out⟩, ⟨by repeat (first | (with_reducible first | exact HB.out | apply below_alloc | apply pw_below_drewN | apply below_drew1 | refine below_set ?_ GE236.out) | exact HB.out)⟩⟩
          · rw [if_neg c14] at H
            have c14b0 : (t238 == a0_0) = false := beq_eq_false_iff_ne.mpr c14
            have c14b1 : (t238 != a0_0) = true := bne_iff_ne.mpr c14
            have H' := Aside0.mk H
            clear H
            have hcz16_0 : w10.cell? ⟨gb236, 0, none⟩ = some (.int .u64 a0_0) := (blk_cell BK236.out 0).trans rfl
            have hcz16_1 : w10.cell? ⟨gb236, 1, none⟩ = some (.int .u64 a0_1) := (blk_cell BK236.out 1).trans rfl
            have hcz16_2 : w10.cell? ⟨gb236, 2, none⟩ = some (.int .u64 a0_2) := (blk_cell BK236.out 2).trans rfl
            have hcz16_3 : w10.cell? ⟨gb236, 3, none⟩ = some (.int .u64 a0_3) := (blk_cell BK236.out 3).trans rfl
            have hcz16_4 : w10.cell? ⟨gb236, 4, none⟩ = some (.int .i64 a0_4) := (blk_cell BK236.out 4).trans rfl
            have hcz16_5 : w10.cell? ⟨gb236, 5, none⟩ = some (.int .i64 a0_5) := (blk_cell BK236.out 5).trans rfl
            have hfz16_0 := blk_frozen BK236.out 0
            have hfz16_1 := blk_frozen BK236.out 1
            have hfz16_2 := blk_frozen BK236.out 2
            have hfz16_3 := blk_frozen BK236.out 3
            have hfz16_4 := blk_frozen BK236.out 4
            have hfz16_5 := blk_frozen BK236.out 5
            go_wp2
            go_meet
            case rel => exact ⟨_, (true), (by first | rfl | (simp; done) | (simp [*]; done)), H', ⟨by first | omega | exact Nat.le_refl _⟩, ⟨by (with_reducible repeat (first | refine blk_drewN ?_ _ | refine blk_drew ?_ | refine blk_alloc ?_ _)); exact BK236.out⟩, ⟨by repeat (first | (with_reducible first | exact HB.out | apply below_alloc | apply pw_below_drewN | apply below_drew1 | refine below_set ?_ GE236.out) | exact HB.out)⟩⟩
        · replace c13 := Bool.eq_false_iff.mpr c13
          subst c13
          have H1 : (halberdlaw07_NumHas.j0 k a1 (t238 != 0) a0_0 a0_1 a0_2 a0_3 a0_4 a0_5) = some r := by rw [if_neg (show ¬ (false = true) by decide)] at H; exact H
          clear H
          have H := H1
          clear H1
          have H' := Aside0.mk H
          clear H
          have hcz17_0 : w10.cell? ⟨gb236, 0, none⟩ = some (.int .u64 a0_0) := (blk_cell BK236.out 0).trans rfl
          have hcz17_1 : w10.cell? ⟨gb236, 1, none⟩ = some (.int .u64 a0_1) := (blk_cell BK236.out 1).trans rfl
          have hcz17_2 : w10.cell? ⟨gb236, 2, none⟩ = some (.int .u64 a0_2) := (blk_cell BK236.out 2).trans rfl
          have hcz17_3 : w10.cell? ⟨gb236, 3, none⟩ = some (.int .u64 a0_3) := (blk_cell BK236.out 3).trans rfl
          have hcz17_4 : w10.cell? ⟨gb236, 4, none⟩ = some (.int .i64 a0_4) := (blk_cell BK236.out 4).trans rfl
          have hcz17_5 : w10.cell? ⟨gb236, 5, none⟩ = some (.int .i64 a0_5) := (blk_cell BK236.out 5).trans rfl
          have hfz17_0 := blk_frozen BK236.out 0
          have hfz17_1 := blk_frozen BK236.out 1
          have hfz17_2 := blk_frozen BK236.out 2
          have hfz17_3 := blk_frozen BK236.out 3
          have hfz17_4 := blk_frozen BK236.out 4
          have hfz17_5 := blk_frozen BK236.out 5
          go_wp2
          go_meet
          case rel => exact ⟨_, ((t238 != 0)), (by first | rfl | (simp; done) | (simp [*]; done)), H', ⟨by first | omega | exact Nat.le_refl _⟩, ⟨by (with_reducible repeat (first | refine blk_drewN ?_ _ | refine blk_drew ?_ | refine blk_alloc ?_ _)); exact BK236.out⟩, ⟨by repeat (first | (with_reducible first | exact HB.out | apply below_alloc | apply pw_below_drewN | apply below_drew1 | refine below_set ?_ GE236.out) | exact HB.out)⟩⟩
    case rest =>
      clear HC6
      try clear c1
      try clear c2
      try clear p2
      try clear c4
      try clear c9
      try clear c11
      try clear c11b0
      try clear c11b1
      try clear c11b2
      try clear c13
      try clear c14
      try clear c14b0
      try clear c14b1
      try clear hcz12_0
      try clear hcz12_1
      try clear hcz12_2
      try clear hcz12_3
      try clear hcz12_4
      try clear hcz12_5
      try clear hcz15_0
      try clear hcz15_1
      try clear hcz15_2
      try clear hcz15_3
      try clear hcz15_4
      try clear hcz15_5
      try clear hcz16_0
      try clear hcz16_1
      try clear hcz16_2
      try clear hcz16_3
      try clear hcz16_4
      try clear hcz16_5
      try clear hcz17_0
      try clear hcz17_1
      try clear hcz17_2
      try clear hcz17_3
      try clear hcz17_4
      try clear hcz17_5
      try clear hcz9_0
      try clear hcz9_1
      try clear hcz9_2
      try clear hcz9_3
      try clear hcz9_4
      try clear hcz9_5
      try clear hfz12_0
      try clear hfz12_1
      try clear hfz12_2
      try clear hfz12_3
      try clear hfz12_4
      try clear hfz12_5
      try clear hfz15_0
      try clear hfz15_1
      try clear hfz15_2
      try clear hfz15_3
      try clear hfz15_4
      try clear hfz15_5
      try clear hfz16_0
      try clear hfz16_1
      try clear hfz16_2
      try clear hfz16_3
      try clear hfz16_4
      try clear hfz16_5
      try clear hfz17_0
      try clear hfz17_1
      try clear hfz17_2
      try clear hfz17_3
      try clear hfz17_4
      try clear hfz17_5
      try clear hfz9_0
      try clear hfz9_1
      try clear hfz9_2
      try clear hfz9_3
      try clear hfz9_4
      try clear hfz9_5
      obtain ⟨kq, x37_5, rfl, HA, HJ5, BK236, HB⟩ := hcut
      cases kq with
      | zero => exact absurd HA.out (by simp [halberdlaw07_NumHas.j0])
      | succ kj5 =>
        have H := HA.out
        clear HA
        simp only [halberdlaw07_NumHas.j0] at H
        by_cases c18 : x37_5 = true
        · subst c18
          have H1 : (some false) = some r := by rw [if_pos rfl] at H; exact H
          clear H
          have H := H1
          clear H1
          exact absurd (Option.some.inj H) (by rw [hr_.out]; decide)
        · replace c18 := Bool.eq_false_iff.mpr c18
          subst c18
          have H1 : ((num_Has.f a0_0 a0_1 a0_2 a0_3 a0_4 a0_5 a1).bind fun t240 => ((halberdref07_Has.f kj5 a0_0 a0_1 a0_2 a0_3 a0_4 a0_5 a1).bind fun t241 => (if (t240 == t241) = true then ((num_Const.f a1).bind fun bt242 => ((halberdref07_Const.f a1).bind fun bt248 => (if ((bt242.1 == bt248.1 && (bt242.2.1 == bt248.2.1)) && (bt242.2.2.1 == bt248.2.2.1 && (bt242.2.2.2.1 == bt248.2.2.2.1 && (bt242.2.2.2.2.1 == bt248.2.2.2.2.1 && (bt242.2.2.2.2.2 == bt248.2.2.2.2.2))))) = true then ((num_All.f).bind fun bt254 => ((halberdref07_All.f).bind fun bt260 => (some ((bt254.1 == bt260.1 && (bt254.2.1 == bt260.2.1)) && (bt254.2.2.1 == bt260.2.2.1 && (bt254.2.2.2.1 == bt260.2.2.2.1 && (bt254.2.2.2.2.1 == bt260.2.2.2.2.1 && (bt254.2.2.2.2.2 == bt260.2.2.2.2.2)))))))) else (some false)))) else (some false)))) = some r := by rw [if_neg (show ¬ (false = true) by decide)] at H; exact H
          clear H
          have H := H1
          clear H1
          replace H := Option.bind_eq_some_iff.mp H
          obtain ⟨t240, A190, H⟩ := H
          replace H : ((halberdref07_Has.f kj5 a0_0 a0_1 a0_2 a0_3 a0_4 a0_5 a1).bind fun t241 => (if (t240 == t241) = true then ((num_Const.f a1).bind fun bt242 => ((halberdref07_Const.f a1).bind fun bt248 => (if ((bt242.1 == bt248.1 && (bt242.2.1 == bt248.2.1)) && (bt242.2.2.1 == bt248.2.2.1 && (bt242.2.2.2.1 == bt248.2.2.2.1 && (bt242.2.2.2.2.1 == bt248.2.2.2.2.1 && (bt242.2.2.2.2.2 == bt248.2.2.2.2.2))))) = true then ((num_All.f).bind fun bt254 => ((halberdref07_All.f).bind fun bt260 => (some ((bt254.1 == bt260.1 && (bt254.2.1 == bt260.2.1)) && (bt254.2.2.1 == bt260.2.2.1 && (bt254.2.2.2.1 == bt260.2.2.2.1 && (bt254.2.2.2.2.1 == bt260.2.2.2.2.1 && (bt254.2.2.2.2.2 == bt260.2.2.2.2.2)))))))) else (some false)))) else (some false))) = some r := H
          have A19 := Aside0.mk A190
          clear A190
          replace H := Option.bind_eq_some_iff.mp H
          obtain ⟨t241, A200, H⟩ := H
          replace H : (if (t240 == t241) = true then ((num_Const.f a1).bind fun bt242 => ((halberdref07_Const.f a1).bind fun bt248 => (if ((bt242.1 == bt248.1 && (bt242.2.1 == bt248.2.1)) && (bt242.2.2.1 == bt248.2.2.1 && (bt242.2.2.2.1 == bt248.2.2.2.1 && (bt242.2.2.2.2.1 == bt248.2.2.2.2.1 && (bt242.2.2.2.2.2 == bt248.2.2.2.2.2))))) = true then ((num_All.f).bind fun bt254 => ((halberdref07_All.f).bind fun bt260 => (some ((bt254.1 == bt260.1 && (bt254.2.1 == bt260.2.1)) && (bt254.2.2.1 == bt260.2.2.1 && (bt254.2.2.2.1 == bt260.2.2.2.1 && (bt254.2.2.2.2.1 == bt260.2.2.2.2.1 && (bt254.2.2.2.2.2 == bt260.2.2.2.2.2)))))))) else (some false)))) else (some false)) = some r := H
          have A20 := Aside0.mk A200
          clear A200
          by_cases c21 : (t240 == t241) = true
          · rw [if_pos c21] at H
            have c21b0 : (t240 == t241) = true := c21
            (try (have c21b1 : decide (t240 = t241) = true := by simpa using c21))
            (try (have c21b2 : (t240 == t241) = true := by simpa using c21))
            clear c21
            replace H := Option.bind_eq_some_iff.mp H
            obtain ⟨⟨t242, t243, t244, t245, t246, t247⟩, A220, H⟩ := H
            replace H : ((halberdref07_Const.f a1).bind fun bt248 => (if ((t242 == bt248.1 && (t243 == bt248.2.1)) && (t244 == bt248.2.2.1 && (t245 == bt248.2.2.2.1 && (t246 == bt248.2.2.2.2.1 && (t247 == bt248.2.2.2.2.2))))) = true then ((num_All.f).bind fun bt254 => ((halberdref07_All.f).bind fun bt260 => (some ((bt254.1 == bt260.1 && (bt254.2.1 == bt260.2.1)) && (bt254.2.2.1 == bt260.2.2.1 && (bt254.2.2.2.1 == bt260.2.2.2.1 && (bt254.2.2.2.2.1 == bt260.2.2.2.2.1 && (bt254.2.2.2.2.2 == bt260.2.2.2.2.2)))))))) else (some false))) = some r := H
            have A22 := Aside0.mk A220
            clear A220
            replace H := Option.bind_eq_some_iff.mp H
            obtain ⟨⟨t248, t249, t250, t251, t252, t253⟩, A230, H⟩ := H
            replace H : (if ((t242 == t248 && (t243 == t249)) && (t244 == t250 && (t245 == t251 && (t246 == t252 && (t247 == t253))))) = true then ((num_All.f).bind fun bt254 => ((halberdref07_All.f).bind fun bt260 => (some ((bt254.1 == bt260.1 && (bt254.2.1 == bt260.2.1)) && (bt254.2.2.1 == bt260.2.2.1 && (bt254.2.2.2.1 == bt260.2.2.2.1 && (bt254.2.2.2.2.1 == bt260.2.2.2.2.1 && (bt254.2.2.2.2.2 == bt260.2.2.2.2.2)))))))) else (some false)) = some r := H
            have A23 := Aside0.mk A230
            clear A230
            by_cases c24 : ((t242 == t248 && (t243 == t249)) && (t244 == t250 && (t245 == t251 && (t246 == t252 && (t247 == t253))))) = true
            · rw [if_pos c24] at H
              have c24b0 : ((t242 == t248 && (t243 == t249)) && (t244 == t250 && (t245 == t251 && (t246 == t252 && (t247 == t253))))) = true := c24
              clear c24
              replace H := Option.bind_eq_some_iff.mp H
              obtain ⟨⟨t254, t255, t256, t257, t258, t259⟩, A250, H⟩ := H
              replace H : ((halberdref07_All.f).bind fun bt260 => (some ((t254 == bt260.1 && (t255 == bt260.2.1)) && (t256 == bt260.2.2.1 && (t257 == bt260.2.2.2.1 && (t258 == bt260.2.2.2.2.1 && (t259 == bt260.2.2.2.2.2))))))) = some r := H
              have A25 := Aside0.mk A250
              clear A250
              replace H := Option.bind_eq_some_iff.mp H
              obtain ⟨⟨t260, t261, t262, t263, t264, t265⟩, A260, H⟩ := H
              replace H : (some ((t254 == t260 && (t255 == t261)) && (t256 == t262 && (t257 == t263 && (t258 == t264 && (t259 == t265)))))) = some r := H
              have A26 := Aside0.mk A260
              clear A260
              obtain rfl := Option.some.inj H
              try go_wp2
              have n0_ := Aside0.mk (blk_drew BK236.out)
              have n1_ := Aside0.mk (below_drew1 HB.out)
              clear BK236
              clear HB
              have BK236 := n0_
              have HB := n1_
              clear n0_ n1_
              refine start_ (n := 20) (S := fun w' => w'.cell? ⟨gb236, 0, none⟩ = some (.int .u64 a0_0) ∧ w'.cell? ⟨gb236, 1, none⟩ = some (.int .u64 a0_1) ∧ w'.cell? ⟨gb236, 2, none⟩ = some (.int .u64 a0_2) ∧ w'.cell? ⟨gb236, 3, none⟩ = some (.int .u64 a0_3) ∧ w'.cell? ⟨gb236, 4, none⟩ = some (.int .i64 a0_4) ∧ w'.cell? ⟨gb236, 5, none⟩ = some (.int .i64 a0_5)) (ds := []) #[false, false, false, false, false, false, false, false, false, false, false, false, false, false, false, false, false, false, false, false] (by kernel_rfl) rfl rfl ⟨(blk_cell BK236.out 0).trans rfl, (blk_cell BK236.out 1).trans rfl, (blk_cell BK236.out 2).trans rfl, (blk_cell BK236.out 3).trans rfl, (blk_cell BK236.out 4).trans rfl, (blk_cell BK236.out 5).trans rfl⟩ (fun hHeld => ?_); refine with_tabW halberdlaw07_NumHas.tab6 halberdlaw07_NumHas.bits6 (fun HT_ HW_ => ?_)
              generalize wc.drew = w27 at BK236 HB hHeld ⊢
              refine pure_ (i := 1) (N := some 39) (v := ?_) (a' := ?_) #[false, true, false, false, false, false, false, false, false, false, false, false, false, false, false, false, false, false, false, false] rfl rfl (any_of HT_.out (by kernel_rfl)) (fun _ _ _ h => h) (Or.inl ⟨by rfl, ?_⟩) ?_ ?_
              rotate_left
              · intro w'
                go_simp
                with_reducible rfl
              rotate_left
              · simp only [Act.put, List.setIfInBounds_toArray, List.set_cons_zero, List.set_cons_succ, i64_w, i32_w]
                rfl
              refine pure_ (i := 4) (N := some 42) (v := ?_) (a' := ?_) #[false, true, false, false, true, false, false, false, false, false, false, false, false, false, false, false, false, false, false, false] rfl rfl (any_of HT_.out (by kernel_rfl)) (fun _ _ _ h => h) (Or.inl ⟨by rfl, ?_⟩) ?_ ?_
              rotate_left
              · intro w'
                go_simp
                with_reducible rfl
              rotate_left
              · simp only [Act.put, List.setIfInBounds_toArray, List.set_cons_zero, List.set_cons_succ, i64_w, i32_w]
                rfl
              refine take_ (i := 0) (N := some 38) (v := ?_) (a' := ?_) #[true, true, false, false, true, false, false, false, false, false, false, false, false, false, false, false, false, false, false, false] rfl rfl (take_ofW HT_.out HW_.out (by kernel_rfl)) (fun _ _ _ h => h) (Or.inl ⟨by rfl, ?_⟩) hHeld ?_ ?_
              rotate_left
              · rintro w' ⟨s0, s1, s2, s3, s4, s5⟩
                go_simp
                with_reducible rfl
              rotate_left
              · simp only [Act.put, List.setIfInBounds_toArray, List.set_cons_zero, List.set_cons_succ, i64_w, i32_w]
                rfl
              refine take_ (i := 3) (N := some 41) (v := ?_) (a' := ?_) #[true, true, false, true, true, false, false, false, false, false, false, false, false, false, false, false, false, false, false, false] rfl rfl (take_ofW HT_.out HW_.out (by kernel_rfl)) (fun _ _ _ h => h) (Or.inl ⟨by rfl, ?_⟩) hHeld ?_ ?_
              rotate_left
              · rintro w' ⟨s0, s1, s2, s3, s4, s5⟩
                go_simp
                with_reducible rfl
              rotate_left
              · simp only [Act.put, List.setIfInBounds_toArray, List.set_cons_zero, List.set_cons_succ, i64_w, i32_w]
                rfl
              refine one_ (i := 2) (N := some 40) #[true, true, true, true, true, false, false, false, false, false, false, false, false, false, false, false, false, false, false, false] rfl rfl (one_of HT_.out (by kernel_rfl)) (by decide) (fun K hK => ?_)
              refine goes_ Try.func22 (by kernel_rfl) rfl #[.agg #[.int .u64 a0_0, .int .u64 a0_1, .int .u64 a0_2, .int .u64 a0_3, .int .i64 a0_4, .int .i64 a0_5], .int .u64 a1] (by rfl) rfl rfl (by (try simp only [List.map_toArray, List.map_cons, List.map_nil]); first | done | rfl | (simp only [List.length_drop, List.length_take]; rfl)) ?_
              with_reducible refine (num_Has.calls a0_0 a0_1 a0_2 a0_3 a0_4 a0_5 a1 t240 _ A19.out).mono ?_
              rintro e w28 ⟨rfl, hb⟩
              refine ⟨_, rfl, ?_⟩
              have n0_ := Aside0.mk (blk_below (g := gb236) (o := .cells #[.int .u64 a0_0, .int .u64 a0_1, .int .u64 a0_2, .int .u64 a0_3, .int .i64 a0_4, .int .i64 a0_5] 36 (0, 0)) (by (with_reducible repeat (first | refine blk_drewN ?_ _ | refine blk_drew ?_ | refine blk_alloc ?_ _)); exact BK236.out) hb)
              have n1_ := Aside0.mk (below_step (by repeat (first | (with_reducible first | exact HB.out | apply below_alloc | apply pw_below_drewN | apply below_drew1 | refine below_set ?_ GE236.out) | exact HB.out)) hb)
              clear BK236
              clear HB
              have BK236 := n0_
              have HB := n1_
              clear n0_ n1_
              (try clear hb)
              (try clear hb2)
              (try clear hk)
              (try clear hi)
              refine hK.out _ _ ⟨(blk_cell BK236.out 0).trans rfl, (blk_cell BK236.out 1).trans rfl, (blk_cell BK236.out 2).trans rfl, (blk_cell BK236.out 3).trans rfl, (blk_cell BK236.out 4).trans rfl, (blk_cell BK236.out 5).trans rfl⟩ (fun hHeld => ?_)
              clear hK K
              refine norm_ (a' := ?_) ?_ ?_
              rotate_left
              · show Act.put _ (some 40) _ = _
                simp only [Act.put, List.setIfInBounds_toArray, List.set_cons_zero, List.set_cons_succ, i64_w, i32_w]
                rfl
              refine one_ (i := 5) (N := some 43) #[true, true, true, true, true, true, false, false, false, false, false, false, false, false, false, false, false, false, false, false] rfl rfl (one_of HT_.out (by kernel_rfl)) (by decide) (fun K hK => ?_)
              refine goes_ Try.func26 (by kernel_rfl) rfl #[.agg #[.int .u64 a0_0, .int .u64 a0_1, .int .u64 a0_2, .int .u64 a0_3, .int .i64 a0_4, .int .i64 a0_5], .int .u64 a1] (by rfl) rfl rfl (by (try simp only [List.map_toArray, List.map_cons, List.map_nil]); first | done | rfl | (simp only [List.length_drop, List.length_take]; rfl)) ?_
              with_reducible refine (halberdref07_Has.calls kj5 a0_0 a0_1 a0_2 a0_3 a0_4 a0_5 a1 t241 _ A20.out).mono ?_
              rintro e w29 ⟨rfl, hb⟩
              refine ⟨_, rfl, ?_⟩
              have n0_ := Aside0.mk (blk_below (g := gb236) (o := .cells #[.int .u64 a0_0, .int .u64 a0_1, .int .u64 a0_2, .int .u64 a0_3, .int .i64 a0_4, .int .i64 a0_5] 36 (0, 0)) (by (with_reducible repeat (first | refine blk_drewN ?_ _ | refine blk_drew ?_ | refine blk_alloc ?_ _)); exact BK236.out) hb)
              have n1_ := Aside0.mk (below_step (by repeat (first | (with_reducible first | exact HB.out | apply below_alloc | apply pw_below_drewN | apply below_drew1 | refine below_set ?_ GE236.out) | exact HB.out)) hb)
              clear BK236
              clear HB
              have BK236 := n0_
              have HB := n1_
              clear n0_ n1_
              (try clear hb)
              (try clear hb2)
              (try clear hk)
              (try clear hi)
              refine hK.out _ _ ⟨(blk_cell BK236.out 0).trans rfl, (blk_cell BK236.out 1).trans rfl, (blk_cell BK236.out 2).trans rfl, (blk_cell BK236.out 3).trans rfl, (blk_cell BK236.out 4).trans rfl, (blk_cell BK236.out 5).trans rfl⟩ (fun hHeld => ?_)
              clear hK K
              refine norm_ (a' := ?_) ?_ ?_
              rotate_left
              · show Act.put _ (some 43) _ = _
                simp only [Act.put, List.setIfInBounds_toArray, List.set_cons_zero, List.set_cons_succ, i64_w, i32_w]
                rfl
              refine pure_ (i := 6) (N := some 44) (v := ?_) (a' := ?_) #[true, true, true, true, true, true, true, false, false, false, false, false, false, false, false, false, false, false, false, false] rfl rfl (any_of HT_.out (by kernel_rfl)) (fun _ _ _ h => h) (Or.inl ⟨by rfl, ?_⟩) ?_ ?_
              rotate_left
              · intro w'
                go_simp
                with_reducible rfl
              rotate_left
              · simp only [Act.put, List.setIfInBounds_toArray, List.set_cons_zero, List.set_cons_succ, i64_w, i32_w]
                rfl
              refine pure_ (i := 7) (N := some 45) (v := ?_) (a' := ?_) #[true, true, true, true, true, true, true, true, false, false, false, false, false, false, false, false, false, false, false, false] rfl rfl (any_of HT_.out (by kernel_rfl)) (fun _ _ _ h => h) (Or.inl ⟨by rfl, ?_⟩) ?_ ?_
              rotate_left
              · intro w'
                go_simp
                with_reducible rfl
              rotate_left
              · simp only [Act.put, List.setIfInBounds_toArray, List.set_cons_zero, List.set_cons_succ, i64_w, i32_w]
                rfl
              refine pure_ (i := 8) (N := some 46) (v := ?_) (a' := ?_) #[true, true, true, true, true, true, true, true, true, false, false, false, false, false, false, false, false, false, false, false] rfl rfl (any_of HT_.out (by kernel_rfl)) (fun _ _ _ h => h) (Or.inl ⟨by rfl, ?_⟩) ?_ ?_
              rotate_left
              · intro w'
                go_simp
                with_reducible rfl
              rotate_left
              · simp only [Act.put, List.setIfInBounds_toArray, List.set_cons_zero, List.set_cons_succ, i64_w, i32_w]
                rfl
              refine pure_ (i := 10) (N := some 48) (v := ?_) (a' := ?_) #[true, true, true, true, true, true, true, true, true, false, true, false, false, false, false, false, false, false, false, false] rfl rfl (any_of HT_.out (by kernel_rfl)) (fun _ _ _ h => h) (Or.inl ⟨by rfl, ?_⟩) ?_ ?_
              rotate_left
              · intro w'
                go_simp
                with_reducible rfl
              rotate_left
              · simp only [Act.put, List.setIfInBounds_toArray, List.set_cons_zero, List.set_cons_succ, i64_w, i32_w]
                rfl
              refine one_ (i := 9) (N := some 47) #[true, true, true, true, true, true, true, true, true, true, true, false, false, false, false, false, false, false, false, false] rfl rfl (one_of HT_.out (by kernel_rfl)) (by decide) (fun K hK => ?_)
              refine goes_ Try.func27 (by kernel_rfl) rfl #[.int .u64 a1] (by rfl) rfl rfl (by (try simp only [List.map_toArray, List.map_cons, List.map_nil]); first | done | rfl | (simp only [List.length_drop, List.length_take]; rfl)) ?_
              with_reducible refine (num_Const.calls a1 t242 t243 t244 t245 t246 t247 _ A22.out).mono ?_
              rintro e w30 ⟨rfl, hb⟩
              refine ⟨_, rfl, ?_⟩
              have n0_ := Aside0.mk (blk_below (g := gb236) (o := .cells #[.int .u64 a0_0, .int .u64 a0_1, .int .u64 a0_2, .int .u64 a0_3, .int .i64 a0_4, .int .i64 a0_5] 36 (0, 0)) (by (with_reducible repeat (first | refine blk_drewN ?_ _ | refine blk_drew ?_ | refine blk_alloc ?_ _)); exact BK236.out) hb)
              have n1_ := Aside0.mk (below_step (by repeat (first | (with_reducible first | exact HB.out | apply below_alloc | apply pw_below_drewN | apply below_drew1 | refine below_set ?_ GE236.out) | exact HB.out)) hb)
              clear BK236
              clear HB
              have BK236 := n0_
              have HB := n1_
              clear n0_ n1_
              (try clear hb)
              (try clear hb2)
              (try clear hk)
              (try clear hi)
              refine hK.out _ _ ⟨(blk_cell BK236.out 0).trans rfl, (blk_cell BK236.out 1).trans rfl, (blk_cell BK236.out 2).trans rfl, (blk_cell BK236.out 3).trans rfl, (blk_cell BK236.out 4).trans rfl, (blk_cell BK236.out 5).trans rfl⟩ (fun hHeld => ?_)
              clear hK K
              refine norm_ (a' := ?_) ?_ ?_
              rotate_left
              · show Act.put _ (some 47) _ = _
                simp only [Act.put, List.setIfInBounds_toArray, List.set_cons_zero, List.set_cons_succ, i64_w, i32_w]
                rfl
              refine one_ (i := 11) (N := some 49) #[true, true, true, true, true, true, true, true, true, true, true, true, false, false, false, false, false, false, false, false] rfl rfl (one_of HT_.out (by kernel_rfl)) (by decide) (fun K hK => ?_)
              refine goes_ Try.func28 (by kernel_rfl) rfl #[.int .u64 a1] (by rfl) rfl rfl (by (try simp only [List.map_toArray, List.map_cons, List.map_nil]); first | done | rfl | (simp only [List.length_drop, List.length_take]; rfl)) ?_
              with_reducible refine (halberdref07_Const.calls a1 t248 t249 t250 t251 t252 t253 _ A23.out).mono ?_
              rintro e w31 ⟨rfl, hb⟩
              refine ⟨_, rfl, ?_⟩
              have n0_ := Aside0.mk (blk_below (g := gb236) (o := .cells #[.int .u64 a0_0, .int .u64 a0_1, .int .u64 a0_2, .int .u64 a0_3, .int .i64 a0_4, .int .i64 a0_5] 36 (0, 0)) (by (with_reducible repeat (first | refine blk_drewN ?_ _ | refine blk_drew ?_ | refine blk_alloc ?_ _)); exact BK236.out) hb)
              have n1_ := Aside0.mk (below_step (by repeat (first | (with_reducible first | exact HB.out | apply below_alloc | apply pw_below_drewN | apply below_drew1 | refine below_set ?_ GE236.out) | exact HB.out)) hb)
              clear BK236
              clear HB
              have BK236 := n0_
              have HB := n1_
              clear n0_ n1_
              (try clear hb)
              (try clear hb2)
              (try clear hk)
              (try clear hi)
              refine hK.out _ _ ⟨(blk_cell BK236.out 0).trans rfl, (blk_cell BK236.out 1).trans rfl, (blk_cell BK236.out 2).trans rfl, (blk_cell BK236.out 3).trans rfl, (blk_cell BK236.out 4).trans rfl, (blk_cell BK236.out 5).trans rfl⟩ (fun hHeld => ?_)
              clear hK K
              refine norm_ (a' := ?_) ?_ ?_
              rotate_left
              · show Act.put _ (some 49) _ = _
                simp only [Act.put, List.setIfInBounds_toArray, List.set_cons_zero, List.set_cons_succ, i64_w, i32_w]
                rfl
              refine pure_ (i := 12) (N := some 50) (v := ?_) (a' := ?_) #[true, true, true, true, true, true, true, true, true, true, true, true, true, false, false, false, false, false, false, false] rfl rfl (any_of HT_.out (by kernel_rfl)) (fun _ _ _ h => h) (Or.inl ⟨by rfl, ?_⟩) ?_ ?_
              rotate_left
              · intro w'
                go_simp
                with_reducible rfl
              rotate_left
              · simp only [Act.put, List.setIfInBounds_toArray, List.set_cons_zero, List.set_cons_succ, i64_w, i32_w]
                rfl
              refine pure_ (i := 13) (N := some 51) (v := ?_) (a' := ?_) #[true, true, true, true, true, true, true, true, true, true, true, true, true, true, false, false, false, false, false, false] rfl rfl (any_of HT_.out (by kernel_rfl)) (fun _ _ _ h => h) (Or.inl ⟨by rfl, ?_⟩) ?_ ?_
              rotate_left
              · intro w'
                go_simp
                with_reducible rfl
              rotate_left
              · simp only [Act.put, List.setIfInBounds_toArray, List.set_cons_zero, List.set_cons_succ, i64_w, i32_w]
                rfl
              refine pure_ (i := 14) (N := some 52) (v := ?_) (a' := ?_) #[true, true, true, true, true, true, true, true, true, true, true, true, true, true, true, false, false, false, false, false] rfl rfl (any_of HT_.out (by kernel_rfl)) (fun _ _ _ h => h) (Or.inl ⟨by rfl, ?_⟩) ?_ ?_
              rotate_left
              · intro w'
                go_simp
                with_reducible rfl
              rotate_left
              · simp only [Act.put, List.setIfInBounds_toArray, List.set_cons_zero, List.set_cons_succ, i64_w, i32_w]
                rfl
              refine one_ (i := 15) (N := some 53) #[true, true, true, true, true, true, true, true, true, true, true, true, true, true, true, true, false, false, false, false] rfl rfl (one_of HT_.out (by kernel_rfl)) (by decide) (fun K hK => ?_)
              refine goes_ Try.func29 (by kernel_rfl) rfl #[] (by rfl) rfl rfl (by (try simp only [List.map_toArray, List.map_cons, List.map_nil]); first | done | rfl | (simp only [List.length_drop, List.length_take]; rfl)) ?_
              with_reducible refine (num_All.calls  t254 t255 t256 t257 t258 t259 _ A25.out).mono ?_
              rintro e w32 ⟨rfl, hb⟩
              refine ⟨_, rfl, ?_⟩
              have n0_ := Aside0.mk (blk_below (g := gb236) (o := .cells #[.int .u64 a0_0, .int .u64 a0_1, .int .u64 a0_2, .int .u64 a0_3, .int .i64 a0_4, .int .i64 a0_5] 36 (0, 0)) (by (with_reducible repeat (first | refine blk_drewN ?_ _ | refine blk_drew ?_ | refine blk_alloc ?_ _)); exact BK236.out) hb)
              have n1_ := Aside0.mk (below_step (by repeat (first | (with_reducible first | exact HB.out | apply below_alloc | apply pw_below_drewN | apply below_drew1 | refine below_set ?_ GE236.out) | exact HB.out)) hb)
              clear BK236
              clear HB
              have BK236 := n0_
              have HB := n1_
              clear n0_ n1_
              (try clear hb)
              (try clear hb2)
              (try clear hk)
              (try clear hi)
              refine hK.out _ _ ⟨(blk_cell BK236.out 0).trans rfl, (blk_cell BK236.out 1).trans rfl, (blk_cell BK236.out 2).trans rfl, (blk_cell BK236.out 3).trans rfl, (blk_cell BK236.out 4).trans rfl, (blk_cell BK236.out 5).trans rfl⟩ (fun hHeld => ?_)
              clear hK K
              refine norm_ (a' := ?_) ?_ ?_
              rotate_left
              · show Act.put _ (some 53) _ = _
                simp only [Act.put, List.setIfInBounds_toArray, List.set_cons_zero, List.set_cons_succ, i64_w, i32_w]
                rfl
              refine one_ (i := 16) (N := some 54) #[true, true, true, true, true, true, true, true, true, true, true, true, true, true, true, true, true, false, false, false] rfl rfl (one_of HT_.out (by kernel_rfl)) (by decide) (fun K hK => ?_)
              refine goes_ Try.func30 (by kernel_rfl) rfl #[] (by rfl) rfl rfl (by (try simp only [List.map_toArray, List.map_cons, List.map_nil]); first | done | rfl | (simp only [List.length_drop, List.length_take]; rfl)) ?_
              with_reducible refine (halberdref07_All.calls  t260 t261 t262 t263 t264 t265 _ A26.out).mono ?_
              rintro e w33 ⟨rfl, hb⟩
              refine ⟨_, rfl, ?_⟩
              have n0_ := Aside0.mk (blk_below (g := gb236) (o := .cells #[.int .u64 a0_0, .int .u64 a0_1, .int .u64 a0_2, .int .u64 a0_3, .int .i64 a0_4, .int .i64 a0_5] 36 (0, 0)) (by (with_reducible repeat (first | refine blk_drewN ?_ _ | refine blk_drew ?_ | refine blk_alloc ?_ _)); exact BK236.out) hb)
              have n1_ := Aside0.mk (below_step (by repeat (first | (with_reducible first | exact HB.out | apply below_alloc | apply pw_below_drewN | apply below_drew1 | refine below_set ?_ GE236.out) | exact HB.out)) hb)
              clear BK236
              clear HB
              have BK236 := n0_
              have HB := n1_
              clear n0_ n1_
              (try clear hb)
              (try clear hb2)
              (try clear hk)
              (try clear hi)
              refine hK.out _ _ ⟨(blk_cell BK236.out 0).trans rfl, (blk_cell BK236.out 1).trans rfl, (blk_cell BK236.out 2).trans rfl, (blk_cell BK236.out 3).trans rfl, (blk_cell BK236.out 4).trans rfl, (blk_cell BK236.out 5).trans rfl⟩ (fun hHeld => ?_)
              clear hK K
              refine norm_ (a' := ?_) ?_ ?_
              rotate_left
              · show Act.put _ (some 54) _ = _
                simp only [Act.put, List.setIfInBounds_toArray, List.set_cons_zero, List.set_cons_succ, i64_w, i32_w]
                rfl
              refine pure_ (i := 17) (N := some 55) (v := ?_) (a' := ?_) #[true, true, true, true, true, true, true, true, true, true, true, true, true, true, true, true, true, true, false, false] rfl rfl (any_of HT_.out (by kernel_rfl)) (fun _ _ _ h => h) (Or.inl ⟨by rfl, ?_⟩) ?_ ?_
              rotate_left
              · intro w'
                go_simp
                with_reducible rfl
              rotate_left
              · simp only [Act.put, List.setIfInBounds_toArray, List.set_cons_zero, List.set_cons_succ, i64_w, i32_w]
                rfl
              refine pure_ (i := 18) (N := some 56) (v := ?_) (a' := ?_) #[true, true, true, true, true, true, true, true, true, true, true, true, true, true, true, true, true, true, true, false] rfl rfl (any_of HT_.out (by kernel_rfl)) (fun _ _ _ h => h) (Or.inl ⟨by rfl, ?_⟩) ?_ ?_
              rotate_left
              · intro w'
                go_simp
                with_reducible rfl
              rotate_left
              · simp only [Act.put, List.setIfInBounds_toArray, List.set_cons_zero, List.set_cons_succ, i64_w, i32_w]
                rfl
              refine pure_ (i := 19) (N := some 4) (v := ?_) (a' := ?_) #[true, true, true, true, true, true, true, true, true, true, true, true, true, true, true, true, true, true, true, true] rfl rfl (any_of HT_.out (by kernel_rfl)) (fun _ _ _ h => h) (Or.inl ⟨by rfl, ?_⟩) ?_ ?_
              rotate_left
              · intro w'
                go_simp
                with_reducible rfl
              rotate_left
              · simp only [Act.put, List.setIfInBounds_toArray, List.set_cons_zero, List.set_cons_succ, i64_w, i32_w]
                rfl
              refine done_ (done_of HT_.out (by kernel_rfl)) ?_
              try go_wp2
              go_ret
              exact ⟨by first | rfl | (simp [errW_none, errW_some] <;> rfl) | (simp [*, errW_none, errW_some] <;> rfl), by repeat (first | (with_reducible first | exact HB.out | apply below_alloc | apply pw_below_drewN | apply below_drew1 | refine below_set ?_ GE236.out) | exact HB.out)⟩
            · rw [if_neg c24] at H
              have c24b0 : ((t242 == t248 && (t243 == t249)) && (t244 == t250 && (t245 == t251 && (t246 == t252 && (t247 == t253))))) = false := by simpa using c24
              clear c24
              exact absurd (Option.some.inj H) (by rw [hr_.out]; decide)
          · rw [if_neg c21] at H
            have c21b0 : (t240 == t241) = false := by simpa using c21
            (try (have c21b1 : decide (t240 = t241) = false := by simpa using c21))
            (try (have c21b2 : (t240 == t241) = false := by simpa using c21))
            (try (have c21b3 : ¬ (t240 = t241) := by simpa using c21))
            clear c21
            exact absurd (Option.some.inj H) (by rw [hr_.out]; decide)
  · replace c4 := Bool.eq_false_iff.mpr c4
    subst c4
    have H1 : (some false) = some r := by rw [if_neg (show ¬ (false = true) by decide)] at H; exact H
    clear H
    have H := H1
    clear H1
    exact absurd (Option.some.inj H) (by rw [hr_.out]; decide)

/-- THE ONE PURE STATEMENT of halberdlaw07_NumHas. -/
def halberdlaw07_NumHas.Pure : Prop := ∀ (a0_0 : Int) (a0_1 : Int) (a0_2 : Int) (a0_3 : Int) (a0_4 : Int) (a0_5 : Int) (a1 : Int), ((((Lit.int .u64 a0_0).wf = true) ∧ ((Lit.int .u64 a0_1).wf = true)) ∧ ((Lit.int .u64 a0_2).wf = true) ∧ ((Lit.int .u64 a0_3).wf = true) ∧ ((Lit.int .i64 a0_4).wf = true) ∧ ((Lit.int .i64 a0_5).wf = true)) → ((Lit.int .u64 a1).wf = true) → ∃ k, halberdlaw07_NumHas.f k a0_0 a0_1 a0_2 a0_3 a0_4 a0_5 a1 = some true

end Go.Proofs.Ytdojdjafleaedaa.PNumHas
