/- Functions of the program that some laws reach, as Lean functions, and proofs that the program's calls come to what they say: written by a program, for the texts that import it; each theorem bears its own conditions. -/
import Derived.Test.YtkbngkhajkhfgaaPIsaChecksx0
import Derived.Test.YtkbngkhajkhfgaaPIsaChecksx1
import Derived.Test.YtkbngkhajkhfgaaPIsaChecksx5
namespace Go.Proofs.Ytkbngkhajkhfgaa.PIsaChecks
open Go.RowKit Go.Proofs.YtkbngkhajkhfgaaW.PrintWords Go.Proofs.YtkbngkhajkhfgaaW.PrintLast Go.Proofs.YtkbngkhajkhfgaaW.PrintMore
attribute [local go_sem] max2_int min2_int max_two min_two max_three min_three max_four min_four   -- for this text's walks alone
set_option linter.unusedVariables false
set_option linter.unusedSimpArgs false

attribute [local go_sem high] eqA24
/-! ### halberdref03_Right: function 11 -/
mutual
def halberdref03_Right.j0 : Nat → Bool → Bool → Int → Int → Int → Int → Int → Option (Bool)
  | 0, _, _, _, _, _, _, _ => none
  | k + 1, x3, x35, x145000, x145001, x145002, x145003, x145004 => if x35 = true then (if ((Int.tdiv x145000 16) % 256) > 12 then (halberdref03_Right.j1 k x3 ((Int.tdiv x145000 16) % 256) true x145000 x145001 x145002 x145003 x145004) else (if x145001 > 9 then (halberdref03_Right.j1 k x3 ((Int.tdiv x145000 16) % 256) true x145000 x145001 x145002 x145003 x145004) else (halberdref03_Right.j1 k x3 ((Int.tdiv x145000 16) % 256) (x145003 != 0) x145000 x145001 x145002 x145003 x145004))) else ((halberdref03_Conditional.f x145000).bind fun t145 => (if t145 = true then (if x3 = true then (if x145001 ≤ 10 then (if x145002 ≤ 10 then (some (x145004 == 0)) else (some false)) else (some false)) else (if x145001 ≤ 10 then (some (x145002 == 0)) else (some false))) else (if x145000 = 5 then (if x145001 = 0 then (if x145002 = 0 then (some (x145004 == 0)) else (some false)) else (some false)) else (if x145000 = 133 then (if x145001 = 0 then (if x145002 = 0 then (some (x145003 == 0)) else (some false)) else (some false)) else (if x145000 = 149 then (some (x145000 == 149 && (x145001 == 0 && (x145002 == 0 && (x145003 == 0 && (x145004 == 0)))))) else ((halberdref03_Size.f k x145000).bind fun t146 => (if t146 = 0 then (some false) else (if (Int.tmod x145000 8) = 1 then (if x145001 ≤ 9 then (if x145002 ≤ 10 then (some (x145004 == 0)) else (some false)) else (some false)) else (if (Int.tmod x145000 8) = 2 then (if x145001 ≤ 10 then (some (x145002 == 0)) else (some false)) else (if x145001 ≤ 10 then (if x145002 ≤ 10 then (some (x145004 == 0)) else (some false)) else (some false)))))))))))
def halberdref03_Right.j1 : Nat → Bool → Int → Bool → Int → Int → Int → Int → Int → Option (Bool)
  | 0, _, _, _, _, _, _, _, _ => none
  | k + 1, x3, x4, x50, x145000, x145001, x145002, x145003, x145004 => if x50 = true then (some false) else (if x4 = 8 then (if x3 = true then (some false) else (if x145002 = 0 then (some (x145004 == 0)) else (some false))) else (if x3 = true then (if x145002 ≤ 10 then (some (x145004 == 0)) else (some false)) else (some (x145002 == 0))))
end
def halberdref03_Right.f (k : Nat) (a0_0 : Int) (a0_1 : Int) (a0_2 : Int) (a0_3 : Int) (a0_4 : Int) : Option (Bool) := if a0_0 = 24 then (if a0_1 ≤ 9 then (if a0_3 = 0 then (some (decide (a0_2 ≤ 1))) else (some false)) else (some false)) else (if (Int.tmod a0_0 8) = 4 then (halberdref03_Right.j0 k ((((Int.tdiv a0_0 8) % 256) % 2) == 1) true a0_0 a0_1 a0_2 a0_3 a0_4) else (halberdref03_Right.j0 k ((((Int.tdiv a0_0 8) % 256) % 2) == 1) ((Int.tmod a0_0 8) == 7) a0_0 a0_1 a0_2 a0_3 a0_4))
theorem halberdref03_Right.mono_l : ∀ k, (∀ y0 y1 y2 y3 y4 y5 y6, LeO (halberdref03_Right.j0 k y0 y1 y2 y3 y4 y5 y6) (halberdref03_Right.j0 (k + 1) y0 y1 y2 y3 y4 y5 y6)) ∧ (∀ y0 y1 y2 y3 y4 y5 y6 y7, LeO (halberdref03_Right.j1 k y0 y1 y2 y3 y4 y5 y6 y7) (halberdref03_Right.j1 (k + 1) y0 y1 y2 y3 y4 y5 y6 y7))
  | 0 => ⟨fun _ _ _ _ _ _ _ r h => by simp [halberdref03_Right.j0] at h, fun _ _ _ _ _ _ _ _ r h => by simp [halberdref03_Right.j1] at h⟩
  | k + 1 => by
    obtain ⟨ih0, ih1⟩ := halberdref03_Right.mono_l k
    refine ⟨?_, ?_⟩
    · intro y0 y1 y2 y3 y4 y5 y6
      unfold halberdref03_Right.j0
      repeat' first
      | (with_reducible exact ih0 _ _ _ _ _ _ _)
      | (with_reducible exact ih1 _ _ _ _ _ _ _ _)
      | (with_reducible exact halberdref03_Size.mono _ _)
      | (with_reducible exact LeO.refl _)
      | (with_reducible exact LeO.none _)
      | (with_reducible refine LeO.ite ?_ ?_)
      | (with_reducible refine LeO.bind ?_ (fun _ => ?_))
      | exact ih0 _ _ _ _ _ _ _
      | exact ih1 _ _ _ _ _ _ _ _
      | exact halberdref03_Size.mono _ _
      | exact LeO.none _
      | refine LeO.ite ?_ ?_
      | refine LeO.bind ?_ (fun _ => ?_)
    · intro y0 y1 y2 y3 y4 y5 y6 y7
      unfold halberdref03_Right.j1
      repeat' first
      | (with_reducible exact ih0 _ _ _ _ _ _ _)
      | (with_reducible exact ih1 _ _ _ _ _ _ _ _)
      | (with_reducible exact halberdref03_Size.mono _ _)
      | (with_reducible exact LeO.refl _)
      | (with_reducible exact LeO.none _)
      | (with_reducible refine LeO.ite ?_ ?_)
      | (with_reducible refine LeO.bind ?_ (fun _ => ?_))
      | exact ih0 _ _ _ _ _ _ _
      | exact ih1 _ _ _ _ _ _ _ _
      | exact halberdref03_Size.mono _ _
      | exact LeO.none _
      | refine LeO.ite ?_ ?_
      | refine LeO.bind ?_ (fun _ => ?_)
theorem halberdref03_Right.mono : ∀ a0 a1 a2 a3 a4 k, LeO (halberdref03_Right.f k a0 a1 a2 a3 a4) (halberdref03_Right.f (k + 1) a0 a1 a2 a3 a4) := by
  intro a0 a1 a2 a3 a4 k
  obtain ⟨ih0, ih1⟩ := halberdref03_Right.mono_l k
  unfold halberdref03_Right.f
  repeat' first
      | (with_reducible exact ih0 _ _ _ _ _ _ _)
      | (with_reducible exact ih1 _ _ _ _ _ _ _ _)
      | (with_reducible exact halberdref03_Size.mono _ _)
      | (with_reducible exact LeO.refl _)
      | (with_reducible exact LeO.none _)
      | (with_reducible refine LeO.ite ?_ ?_)
      | (with_reducible refine LeO.bind ?_ (fun _ => ?_))
      | exact ih0 _ _ _ _ _ _ _
      | exact ih1 _ _ _ _ _ _ _ _
      | exact halberdref03_Size.mono _ _
      | exact LeO.none _
      | refine LeO.ite ?_ ?_
      | refine LeO.bind ?_ (fun _ => ?_)
set_option maxHeartbeats 8000000 in
set_option maxRecDepth 100000 in
theorem halberdref03_Right.calls (k : Nat) (a0_0 : Int) (a0_1 : Int) (a0_2 : Int) (a0_3 : Int) (a0_4 : Int) (r : Bool) (w : World) (h : halberdref03_Right.f k a0_0 a0_1 a0_2 a0_3 a0_4 = some r) :
    Calls Try.prog 11 #[.agg #[.int .u8 a0_0, .int .u8 a0_1, .int .u8 a0_2, .int .i16 a0_3, .int .i32 a0_4]] w fun e w' => e = .returned (.bool r) ∧ Below w.heap.size w w' := by
  have hu24 := Try.underlying24
  have HB := Aside0.mk (Below.refl w.heap.size w)
  have H : (if a0_0 = 24 then (if a0_1 ≤ 9 then (if a0_3 = 0 then (some (decide (a0_2 ≤ 1))) else (some false)) else (some false)) else (if (Int.tmod a0_0 8) = 4 then (halberdref03_Right.j0 k ((((Int.tdiv a0_0 8) % 256) % 2) == 1) true a0_0 a0_1 a0_2 a0_3 a0_4) else (halberdref03_Right.j0 k ((((Int.tdiv a0_0 8) % 256) % 2) == 1) ((Int.tmod a0_0 8) == 7) a0_0 a0_1 a0_2 a0_3 a0_4))) = some r := h
  clear h
  by_cases c2 : a0_0 = 24
  · rw [if_pos c2] at H
    have c2b0 : (a0_0 == 24) = true := beq_iff_eq.mpr c2
    have c2b1 : (a0_0 != 24) = false := bne_eq_false_iff_eq.mpr c2
    clear c2
    by_cases c3 : a0_1 ≤ 9
    · rw [if_pos c3] at H
      have c3b0 : decide (a0_1 ≤ 9) = true := decide_eq_true c3
      clear c3
      by_cases c4 : a0_3 = 0
      · rw [if_pos c4] at H
        have c4b0 : (a0_3 == 0) = true := beq_iff_eq.mpr c4
        have c4b1 : (a0_3 != 0) = false := bne_eq_false_iff_eq.mpr c4
        clear c4
        obtain rfl := Option.some.inj H
        go_enter Try.func11, Try.ntmps11
        go_wp2_with (first | ((with_reducible refine gate_dst (N := 1) rfl ?_); refine box_event ?hg (N := 1) ?hd (cs := #[.int .u8 a0_0, .int .u8 a0_1, .int .u8 a0_2, .int .i16 a0_3, .int .i32 a0_4]) (t := 24) ?hr ?_; (case hd => rfl); (case hg => rfl); (case hr => first | (go_simp; done) | (go_simp; rfl)); intro gb144 hg w5 hbox hb; have n0_ := Aside0.mk (below_step (by repeat (first | (with_reducible first | exact HB.out | apply below_alloc | apply pw_below_drewN | apply below_drew1) | exact HB.out)) hb); have n1_ := Aside0.mk (hbox); have n2_ := Aside0.mk ((by rw [hg]; exact (below_size (by repeat (first | (with_reducible first | exact HB.out | apply below_alloc | apply pw_below_drewN | apply below_drew1) | exact HB.out))) : w.heap.size ≤ gb144)); have n3_ := Aside0.mk ((by rw [hg]; exact (below_size (by repeat (first | (with_reducible first | exact HB.out | apply below_alloc | apply pw_below_drewN | apply below_drew1) | exact HB.out))) : w.heap.size ≤ gb144)); clear HB; have HB := n0_; have BK144 := n1_; have GW144 := n2_; have GE144 := n3_; clear n0_ n1_ n2_ n3_; clear hb hbox hg; have hcz6_0 : w5.cell? ⟨gb144, 0, none⟩ = some (.int .u8 a0_0) := (blk_cell BK144.out 0).trans rfl; have hcz6_1 : w5.cell? ⟨gb144, 1, none⟩ = some (.int .u8 a0_1) := (blk_cell BK144.out 1).trans rfl; have hcz6_2 : w5.cell? ⟨gb144, 2, none⟩ = some (.int .u8 a0_2) := (blk_cell BK144.out 2).trans rfl; have hcz6_3 : w5.cell? ⟨gb144, 3, none⟩ = some (.int .i16 a0_3) := (blk_cell BK144.out 3).trans rfl; have hcz6_4 : w5.cell? ⟨gb144, 4, none⟩ = some (.int .i32 a0_4) := (blk_cell BK144.out 4).trans rfl; have hfz6_0 := blk_frozen BK144.out 0; have hfz6_1 := blk_frozen BK144.out 1; have hfz6_2 := blk_frozen BK144.out 2; have hfz6_3 := blk_frozen BK144.out 3; have hfz6_4 := blk_frozen BK144.out 4))
        go_ret
        exact ⟨by first | rfl | (simp [errW_none, errW_some] <;> rfl) | (simp [*, errW_none, errW_some] <;> rfl), by repeat (first | (with_reducible first | exact HB.out | apply below_alloc | apply pw_below_drewN | apply below_drew1 | refine below_set ?_ GE144.out) | exact HB.out)⟩
      · rw [if_neg c4] at H
        have c4b0 : (a0_3 == 0) = false := beq_eq_false_iff_ne.mpr c4
        have c4b1 : (a0_3 != 0) = true := bne_iff_ne.mpr c4
        obtain rfl := Option.some.inj H
        go_enter Try.func11, Try.ntmps11
        go_wp2_with (first | ((with_reducible refine gate_dst (N := 1) rfl ?_); refine box_event ?hg (N := 1) ?hd (cs := #[.int .u8 a0_0, .int .u8 a0_1, .int .u8 a0_2, .int .i16 a0_3, .int .i32 a0_4]) (t := 24) ?hr ?_; (case hd => rfl); (case hg => rfl); (case hr => first | (go_simp; done) | (go_simp; rfl)); intro gb144 hg w7 hbox hb; have n0_ := Aside0.mk (below_step (by repeat (first | (with_reducible first | exact HB.out | apply below_alloc | apply pw_below_drewN | apply below_drew1) | exact HB.out)) hb); have n1_ := Aside0.mk (hbox); have n2_ := Aside0.mk ((by rw [hg]; exact (below_size (by repeat (first | (with_reducible first | exact HB.out | apply below_alloc | apply pw_below_drewN | apply below_drew1) | exact HB.out))) : w.heap.size ≤ gb144)); have n3_ := Aside0.mk ((by rw [hg]; exact (below_size (by repeat (first | (with_reducible first | exact HB.out | apply below_alloc | apply pw_below_drewN | apply below_drew1) | exact HB.out))) : w.heap.size ≤ gb144)); clear HB; have HB := n0_; have BK144 := n1_; have GW144 := n2_; have GE144 := n3_; clear n0_ n1_ n2_ n3_; clear hb hbox hg; have hcz8_0 : w7.cell? ⟨gb144, 0, none⟩ = some (.int .u8 a0_0) := (blk_cell BK144.out 0).trans rfl; have hcz8_1 : w7.cell? ⟨gb144, 1, none⟩ = some (.int .u8 a0_1) := (blk_cell BK144.out 1).trans rfl; have hcz8_2 : w7.cell? ⟨gb144, 2, none⟩ = some (.int .u8 a0_2) := (blk_cell BK144.out 2).trans rfl; have hcz8_3 : w7.cell? ⟨gb144, 3, none⟩ = some (.int .i16 a0_3) := (blk_cell BK144.out 3).trans rfl; have hcz8_4 : w7.cell? ⟨gb144, 4, none⟩ = some (.int .i32 a0_4) := (blk_cell BK144.out 4).trans rfl; have hfz8_0 := blk_frozen BK144.out 0; have hfz8_1 := blk_frozen BK144.out 1; have hfz8_2 := blk_frozen BK144.out 2; have hfz8_3 := blk_frozen BK144.out 3; have hfz8_4 := blk_frozen BK144.out 4))
        go_ret
        exact ⟨by first | rfl | (simp [errW_none, errW_some] <;> rfl) | (simp [*, errW_none, errW_some] <;> rfl), by repeat (first | (with_reducible first | exact HB.out | apply below_alloc | apply pw_below_drewN | apply below_drew1 | refine below_set ?_ GE144.out) | exact HB.out)⟩
    · rw [if_neg c3] at H
      have c3b0 : decide (a0_1 ≤ 9) = false := decide_eq_false c3
      clear c3
      obtain rfl := Option.some.inj H
      go_enter Try.func11, Try.ntmps11
      go_wp2_with (first | ((with_reducible refine gate_dst (N := 1) rfl ?_); refine box_event ?hg (N := 1) ?hd (cs := #[.int .u8 a0_0, .int .u8 a0_1, .int .u8 a0_2, .int .i16 a0_3, .int .i32 a0_4]) (t := 24) ?hr ?_; (case hd => rfl); (case hg => rfl); (case hr => first | (go_simp; done) | (go_simp; rfl)); intro gb144 hg w9 hbox hb; have n0_ := Aside0.mk (below_step (by repeat (first | (with_reducible first | exact HB.out | apply below_alloc | apply pw_below_drewN | apply below_drew1) | exact HB.out)) hb); have n1_ := Aside0.mk (hbox); have n2_ := Aside0.mk ((by rw [hg]; exact (below_size (by repeat (first | (with_reducible first | exact HB.out | apply below_alloc | apply pw_below_drewN | apply below_drew1) | exact HB.out))) : w.heap.size ≤ gb144)); have n3_ := Aside0.mk ((by rw [hg]; exact (below_size (by repeat (first | (with_reducible first | exact HB.out | apply below_alloc | apply pw_below_drewN | apply below_drew1) | exact HB.out))) : w.heap.size ≤ gb144)); clear HB; have HB := n0_; have BK144 := n1_; have GW144 := n2_; have GE144 := n3_; clear n0_ n1_ n2_ n3_; clear hb hbox hg; have hcz10_0 : w9.cell? ⟨gb144, 0, none⟩ = some (.int .u8 a0_0) := (blk_cell BK144.out 0).trans rfl; have hcz10_1 : w9.cell? ⟨gb144, 1, none⟩ = some (.int .u8 a0_1) := (blk_cell BK144.out 1).trans rfl; have hcz10_2 : w9.cell? ⟨gb144, 2, none⟩ = some (.int .u8 a0_2) := (blk_cell BK144.out 2).trans rfl; have hcz10_3 : w9.cell? ⟨gb144, 3, none⟩ = some (.int .i16 a0_3) := (blk_cell BK144.out 3).trans rfl; have hcz10_4 : w9.cell? ⟨gb144, 4, none⟩ = some (.int .i32 a0_4) := (blk_cell BK144.out 4).trans rfl; have hfz10_0 := blk_frozen BK144.out 0; have hfz10_1 := blk_frozen BK144.out 1; have hfz10_2 := blk_frozen BK144.out 2; have hfz10_3 := blk_frozen BK144.out 3; have hfz10_4 := blk_frozen BK144.out 4))
      go_ret
      exact ⟨by first | rfl | (simp [errW_none, errW_some] <;> rfl) | (simp [*, errW_none, errW_some] <;> rfl), by repeat (first | (with_reducible first | exact HB.out | apply below_alloc | apply pw_below_drewN | apply below_drew1 | refine below_set ?_ GE144.out) | exact HB.out)⟩
  · rw [if_neg c2] at H
    have c2b0 : (a0_0 == 24) = false := beq_eq_false_iff_ne.mpr c2
    have c2b1 : (a0_0 != 24) = true := bne_iff_ne.mpr c2
    have HC11 := Aside0.mk H
    clear H
    go_enter Try.func11, Try.ntmps11
    go_upto_region 4 with (first | ((with_reducible refine gate_dst (N := 1) rfl ?_); refine box_event ?hg (N := 1) ?hd (cs := #[.int .u8 a0_0, .int .u8 a0_1, .int .u8 a0_2, .int .i16 a0_3, .int .i32 a0_4]) (t := 24) ?hr ?_; (case hd => rfl); (case hg => rfl); (case hr => first | (go_simp; done) | (go_simp; rfl)); intro gb144 hg w12 hbox hb; have n0_ := Aside0.mk (below_step (by repeat (first | (with_reducible first | exact HB.out | apply below_alloc | apply pw_below_drewN | apply below_drew1) | exact HB.out)) hb); have n1_ := Aside0.mk (hbox); have n2_ := Aside0.mk ((by rw [hg]; exact (below_size (by repeat (first | (with_reducible first | exact HB.out | apply below_alloc | apply pw_below_drewN | apply below_drew1) | exact HB.out))) : w.heap.size ≤ gb144)); have n3_ := Aside0.mk ((by rw [hg]; exact (below_size (by repeat (first | (with_reducible first | exact HB.out | apply below_alloc | apply pw_below_drewN | apply below_drew1) | exact HB.out))) : w.heap.size ≤ gb144)); clear HB; have HB := n0_; have BK144 := n1_; have GW144 := n2_; have GE144 := n3_; clear n0_ n1_ n2_ n3_; clear hb hbox hg; have hcz13_0 : w12.cell? ⟨gb144, 0, none⟩ = some (.int .u8 a0_0) := (blk_cell BK144.out 0).trans rfl; have hcz13_1 : w12.cell? ⟨gb144, 1, none⟩ = some (.int .u8 a0_1) := (blk_cell BK144.out 1).trans rfl; have hcz13_2 : w12.cell? ⟨gb144, 2, none⟩ = some (.int .u8 a0_2) := (blk_cell BK144.out 2).trans rfl; have hcz13_3 : w12.cell? ⟨gb144, 3, none⟩ = some (.int .i16 a0_3) := (blk_cell BK144.out 3).trans rfl; have hcz13_4 : w12.cell? ⟨gb144, 4, none⟩ = some (.int .i32 a0_4) := (blk_cell BK144.out 4).trans rfl; have hfz13_0 := blk_frozen BK144.out 0; have hfz13_1 := blk_frozen BK144.out 1; have hfz13_2 := blk_frozen BK144.out 2; have hfz13_3 := blk_frozen BK144.out 3; have hfz13_4 := blk_frozen BK144.out 4))
    (try simp only [Act.put, List.setIfInBounds_toArray, List.set_cons_zero, List.set_cons_succ])
    go_cut [35] (fun v35 wc => ∃ (kq : Nat) (x35_10 : Bool), v35 = .bool x35_10 ∧ Aside0 (halberdref03_Right.j0 kq ((((Int.tdiv a0_0 8) % 256) % 2) == 1) x35_10 a0_0 a0_1 a0_2 a0_3 a0_4 = some r) ∧ Aside0 (kq ≤ k) ∧ Aside0 (wc.heap[gb144]? = some (.cells #[.int .u8 a0_0, .int .u8 a0_1, .int .u8 a0_2, .int .i16 a0_3, .int .i32 a0_4] 24 (0, 0))) ∧ Aside0 (Below w.heap.size w wc))
    case first =>
      have H := HC11.out
      clear HC11
      by_cases c14 : (Int.tmod a0_0 8) = 4
      · rw [if_pos c14] at H
        have c14b0 : ((Int.tmod a0_0 8) == 4) = true := beq_iff_eq.mpr c14
        have c14b1 : ((Int.tmod a0_0 8) != 4) = false := bne_eq_false_iff_eq.mpr c14
        clear c14
        (first | rw [c14b0] | (simp only [i64_w, i32_w]; rw [c14b0]) | skip)
        have H' := Aside0.mk H
        clear H
        have hcz15_0 : w12.cell? ⟨gb144, 0, none⟩ = some (.int .u8 a0_0) := (blk_cell BK144.out 0).trans rfl
        have hcz15_1 : w12.cell? ⟨gb144, 1, none⟩ = some (.int .u8 a0_1) := (blk_cell BK144.out 1).trans rfl
        have hcz15_2 : w12.cell? ⟨gb144, 2, none⟩ = some (.int .u8 a0_2) := (blk_cell BK144.out 2).trans rfl
        have hcz15_3 : w12.cell? ⟨gb144, 3, none⟩ = some (.int .i16 a0_3) := (blk_cell BK144.out 3).trans rfl
        have hcz15_4 : w12.cell? ⟨gb144, 4, none⟩ = some (.int .i32 a0_4) := (blk_cell BK144.out 4).trans rfl
        have hfz15_0 := blk_frozen BK144.out 0
        have hfz15_1 := blk_frozen BK144.out 1
        have hfz15_2 := blk_frozen BK144.out 2
        have hfz15_3 := blk_frozen BK144.out 3
        have hfz15_4 := blk_frozen BK144.out 4
        go_wp2
        go_meet
        case rel => exact ⟨_, (true), (by first | rfl | (simp; done) | (simp [*]; done)), H', ⟨by first | omega | exact Nat.le_refl _⟩, ⟨by (with_reducible repeat (first | refine blk_drewN ?_ _ | refine blk_drew ?_ | refine blk_alloc ?_ _)); exact BK144.out⟩, ⟨by repeat (first | (with_reducible first | exact HB.out | apply below_alloc | apply pw_below_drewN | apply below_drew1 | refine below_set ?_ GE144.out) | exact HB.out)⟩⟩
      · rw [if_neg c14] at H
        have c14b0 : ((Int.tmod a0_0 8) == 4) = false := beq_eq_false_iff_ne.mpr c14
        have c14b1 : ((Int.tmod a0_0 8) != 4) = true := bne_iff_ne.mpr c14
        (first | rw [c14b0] | (simp only [i64_w, i32_w]; rw [c14b0]) | skip)
        have H' := Aside0.mk H
        clear H
        have hcz16_0 : w12.cell? ⟨gb144, 0, none⟩ = some (.int .u8 a0_0) := (blk_cell BK144.out 0).trans rfl
        have hcz16_1 : w12.cell? ⟨gb144, 1, none⟩ = some (.int .u8 a0_1) := (blk_cell BK144.out 1).trans rfl
        have hcz16_2 : w12.cell? ⟨gb144, 2, none⟩ = some (.int .u8 a0_2) := (blk_cell BK144.out 2).trans rfl
        have hcz16_3 : w12.cell? ⟨gb144, 3, none⟩ = some (.int .i16 a0_3) := (blk_cell BK144.out 3).trans rfl
        have hcz16_4 : w12.cell? ⟨gb144, 4, none⟩ = some (.int .i32 a0_4) := (blk_cell BK144.out 4).trans rfl
        have hfz16_0 := blk_frozen BK144.out 0
        have hfz16_1 := blk_frozen BK144.out 1
        have hfz16_2 := blk_frozen BK144.out 2
        have hfz16_3 := blk_frozen BK144.out 3
        have hfz16_4 := blk_frozen BK144.out 4
        go_wp2
        go_meet
        case rel => exact ⟨_, (((Int.tmod a0_0 8) == 7)), (by first | rfl | (simp; done) | (simp [*]; done)), H', ⟨by first | omega | exact Nat.le_refl _⟩, ⟨by (with_reducible repeat (first | refine blk_drewN ?_ _ | refine blk_drew ?_ | refine blk_alloc ?_ _)); exact BK144.out⟩, ⟨by repeat (first | (with_reducible first | exact HB.out | apply below_alloc | apply pw_below_drewN | apply below_drew1 | refine below_set ?_ GE144.out) | exact HB.out)⟩⟩
    case rest =>
      clear HC11
      try clear c1
      try clear c2
      try clear c2b0
      try clear c2b1
      try clear p2
      try clear c3
      try clear c3b0
      try clear c4
      try clear c4b0
      try clear c4b1
      try clear c11
      try clear c14
      try clear c14b0
      try clear c14b1
      try clear hcz10_0
      try clear hcz10_1
      try clear hcz10_2
      try clear hcz10_3
      try clear hcz10_4
      try clear hcz13_0
      try clear hcz13_1
      try clear hcz13_2
      try clear hcz13_3
      try clear hcz13_4
      try clear hcz15_0
      try clear hcz15_1
      try clear hcz15_2
      try clear hcz15_3
      try clear hcz15_4
      try clear hcz16_0
      try clear hcz16_1
      try clear hcz16_2
      try clear hcz16_3
      try clear hcz16_4
      try clear hcz6_0
      try clear hcz6_1
      try clear hcz6_2
      try clear hcz6_3
      try clear hcz6_4
      try clear hcz8_0
      try clear hcz8_1
      try clear hcz8_2
      try clear hcz8_3
      try clear hcz8_4
      try clear hfz10_0
      try clear hfz10_1
      try clear hfz10_2
      try clear hfz10_3
      try clear hfz10_4
      try clear hfz13_0
      try clear hfz13_1
      try clear hfz13_2
      try clear hfz13_3
      try clear hfz13_4
      try clear hfz15_0
      try clear hfz15_1
      try clear hfz15_2
      try clear hfz15_3
      try clear hfz15_4
      try clear hfz16_0
      try clear hfz16_1
      try clear hfz16_2
      try clear hfz16_3
      try clear hfz16_4
      try clear hfz6_0
      try clear hfz6_1
      try clear hfz6_2
      try clear hfz6_3
      try clear hfz6_4
      try clear hfz8_0
      try clear hfz8_1
      try clear hfz8_2
      try clear hfz8_3
      try clear hfz8_4
      obtain ⟨kq, x35_10, rfl, HA, HJ10, BK144, HB⟩ := hcut
      cases kq with
      | zero => exact absurd HA.out (by simp [halberdref03_Right.j0])
      | succ kj10 =>
        have H := HA.out
        clear HA
        simp only [halberdref03_Right.j0] at H
        by_cases c17 : x35_10 = true
        · subst c17
          have H1 : (if ((Int.tdiv a0_0 16) % 256) > 12 then (halberdref03_Right.j1 kj10 ((((Int.tdiv a0_0 8) % 256) % 2) == 1) ((Int.tdiv a0_0 16) % 256) true a0_0 a0_1 a0_2 a0_3 a0_4) else (if a0_1 > 9 then (halberdref03_Right.j1 kj10 ((((Int.tdiv a0_0 8) % 256) % 2) == 1) ((Int.tdiv a0_0 16) % 256) true a0_0 a0_1 a0_2 a0_3 a0_4) else (halberdref03_Right.j1 kj10 ((((Int.tdiv a0_0 8) % 256) % 2) == 1) ((Int.tdiv a0_0 16) % 256) (a0_3 != 0) a0_0 a0_1 a0_2 a0_3 a0_4))) = some r := by rw [if_pos rfl] at H; exact H
          clear H
          have H := H1
          clear H1
          have HC18 := Aside0.mk H
          clear H
          have hcz19_0 : wc.cell? ⟨gb144, 0, none⟩ = some (.int .u8 a0_0) := (blk_cell BK144.out 0).trans rfl
          have hcz19_1 : wc.cell? ⟨gb144, 1, none⟩ = some (.int .u8 a0_1) := (blk_cell BK144.out 1).trans rfl
          have hcz19_2 : wc.cell? ⟨gb144, 2, none⟩ = some (.int .u8 a0_2) := (blk_cell BK144.out 2).trans rfl
          have hcz19_3 : wc.cell? ⟨gb144, 3, none⟩ = some (.int .i16 a0_3) := (blk_cell BK144.out 3).trans rfl
          have hcz19_4 : wc.cell? ⟨gb144, 4, none⟩ = some (.int .i32 a0_4) := (blk_cell BK144.out 4).trans rfl
          have hfz19_0 := blk_frozen BK144.out 0
          have hfz19_1 := blk_frozen BK144.out 1
          have hfz19_2 := blk_frozen BK144.out 2
          have hfz19_3 := blk_frozen BK144.out 3
          have hfz19_4 := blk_frozen BK144.out 4
          go_upto_region 6 with (fail)
          go_cut [50] (fun v50 wc => ∃ (kq : Nat) (x50_17 : Bool), v50 = .bool x50_17 ∧ Aside0 (halberdref03_Right.j1 kq ((((Int.tdiv a0_0 8) % 256) % 2) == 1) ((Int.tdiv a0_0 16) % 256) x50_17 a0_0 a0_1 a0_2 a0_3 a0_4 = some r) ∧ Aside0 (kq ≤ kj10) ∧ Aside0 (wc.heap[gb144]? = some (.cells #[.int .u8 a0_0, .int .u8 a0_1, .int .u8 a0_2, .int .i16 a0_3, .int .i32 a0_4] 24 (0, 0))) ∧ Aside0 (Below w.heap.size w wc))
          case first =>
            have H := HC18.out
            clear HC18
            by_cases c20 : ((Int.tdiv a0_0 16) % 256) > 12
            · rw [if_pos c20] at H
              have c20b0 : decide (12 < ((Int.tdiv a0_0 16) % 256)) = true := decide_eq_true c20
              clear c20
              (first | rw [c20b0] | (simp only [i64_w, i32_w]; rw [c20b0]) | skip)
              have H' := Aside0.mk H
              clear H
              go_wp2
              go_meet
              case rel => exact ⟨_, (true), (by first | rfl | (simp; done) | (simp [*]; done)), H', ⟨by have := HJ10.out; first | omega | exact Nat.le_refl _⟩, ⟨by (with_reducible repeat (first | refine blk_drewN ?_ _ | refine blk_drew ?_ | refine blk_alloc ?_ _)); exact BK144.out⟩, ⟨by repeat (first | (with_reducible first | exact HB.out | apply below_alloc | apply pw_below_drewN | apply below_drew1 | refine below_set ?_ GE144.out) | exact HB.out)⟩⟩
            · rw [if_neg c20] at H
              have c20b0 : decide (12 < ((Int.tdiv a0_0 16) % 256)) = false := decide_eq_false c20
              clear c20
              (first | rw [c20b0] | (simp only [i64_w, i32_w]; rw [c20b0]) | skip)
              by_cases c21 : a0_1 > 9
              · rw [if_pos c21] at H
                have c21b0 : decide (9 < a0_1) = true := decide_eq_true c21
                clear c21
                have H' := Aside0.mk H
                clear H
                have hcz22_0 : wc.cell? ⟨gb144, 0, none⟩ = some (.int .u8 a0_0) := (blk_cell BK144.out 0).trans rfl
                have hcz22_1 : wc.cell? ⟨gb144, 1, none⟩ = some (.int .u8 a0_1) := (blk_cell BK144.out 1).trans rfl
                have hcz22_2 : wc.cell? ⟨gb144, 2, none⟩ = some (.int .u8 a0_2) := (blk_cell BK144.out 2).trans rfl
                have hcz22_3 : wc.cell? ⟨gb144, 3, none⟩ = some (.int .i16 a0_3) := (blk_cell BK144.out 3).trans rfl
                have hcz22_4 : wc.cell? ⟨gb144, 4, none⟩ = some (.int .i32 a0_4) := (blk_cell BK144.out 4).trans rfl
                have hfz22_0 := blk_frozen BK144.out 0
                have hfz22_1 := blk_frozen BK144.out 1
                have hfz22_2 := blk_frozen BK144.out 2
                have hfz22_3 := blk_frozen BK144.out 3
                have hfz22_4 := blk_frozen BK144.out 4
                go_wp2
                go_meet
                case rel => exact ⟨_, (true), (by first | rfl | (simp; done) | (simp [*]; done)), H', ⟨by have := HJ10.out; first | omega | exact Nat.le_refl _⟩, ⟨by (with_reducible repeat (first | refine blk_drewN ?_ _ | refine blk_drew ?_ | refine blk_alloc ?_ _)); exact BK144.out⟩, ⟨by repeat (first | (with_reducible first | exact HB.out | apply below_alloc | apply pw_below_drewN | apply below_drew1 | refine below_set ?_ GE144.out) | exact HB.out)⟩⟩
              · rw [if_neg c21] at H
                have c21b0 : decide (9 < a0_1) = false := decide_eq_false c21
                clear c21
                have H' := Aside0.mk H
                clear H
                have hcz23_0 : wc.cell? ⟨gb144, 0, none⟩ = some (.int .u8 a0_0) := (blk_cell BK144.out 0).trans rfl
                have hcz23_1 : wc.cell? ⟨gb144, 1, none⟩ = some (.int .u8 a0_1) := (blk_cell BK144.out 1).trans rfl
                have hcz23_2 : wc.cell? ⟨gb144, 2, none⟩ = some (.int .u8 a0_2) := (blk_cell BK144.out 2).trans rfl
                have hcz23_3 : wc.cell? ⟨gb144, 3, none⟩ = some (.int .i16 a0_3) := (blk_cell BK144.out 3).trans rfl
                have hcz23_4 : wc.cell? ⟨gb144, 4, none⟩ = some (.int .i32 a0_4) := (blk_cell BK144.out 4).trans rfl
                have hfz23_0 := blk_frozen BK144.out 0
                have hfz23_1 := blk_frozen BK144.out 1
                have hfz23_2 := blk_frozen BK144.out 2
                have hfz23_3 := blk_frozen BK144.out 3
                have hfz23_4 := blk_frozen BK144.out 4
                go_wp2
                go_meet
                case rel => exact ⟨_, ((a0_3 != 0)), (by first | rfl | (simp; done) | (simp [*]; done)), H', ⟨by have := HJ10.out; first | omega | exact Nat.le_refl _⟩, ⟨by (with_reducible repeat (first | refine blk_drewN ?_ _ | refine blk_drew ?_ | refine blk_alloc ?_ _)); exact BK144.out⟩, ⟨by repeat (first | (with_reducible first | exact HB.out | apply below_alloc | apply pw_below_drewN | apply below_drew1 | refine below_set ?_ GE144.out) | exact HB.out)⟩⟩
          case rest =>
            clear HC18
            try clear c1
            try clear c2
            try clear c2b0
            try clear c2b1
            try clear p2
            try clear c3
            try clear c3b0
            try clear c4
            try clear c4b0
            try clear c4b1
            try clear c11
            try clear c14
            try clear c14b0
            try clear c14b1
            try clear c17
            try clear c20
            try clear c20b0
            try clear c21
            try clear c21b0
            try clear hcz10_0
            try clear hcz10_1
            try clear hcz10_2
            try clear hcz10_3
            try clear hcz10_4
            try clear hcz13_0
            try clear hcz13_1
            try clear hcz13_2
            try clear hcz13_3
            try clear hcz13_4
            try clear hcz15_0
            try clear hcz15_1
            try clear hcz15_2
            try clear hcz15_3
            try clear hcz15_4
            try clear hcz16_0
            try clear hcz16_1
            try clear hcz16_2
            try clear hcz16_3
            try clear hcz16_4
            try clear hcz19_0
            try clear hcz19_1
            try clear hcz19_2
            try clear hcz19_3
            try clear hcz19_4
            try clear hcz22_0
            try clear hcz22_1
            try clear hcz22_2
            try clear hcz22_3
            try clear hcz22_4
            try clear hcz23_0
            try clear hcz23_1
            try clear hcz23_2
            try clear hcz23_3
            try clear hcz23_4
            try clear hcz6_0
            try clear hcz6_1
            try clear hcz6_2
            try clear hcz6_3
            try clear hcz6_4
            try clear hcz8_0
            try clear hcz8_1
            try clear hcz8_2
            try clear hcz8_3
            try clear hcz8_4
            try clear hfz10_0
            try clear hfz10_1
            try clear hfz10_2
            try clear hfz10_3
            try clear hfz10_4
            try clear hfz13_0
            try clear hfz13_1
            try clear hfz13_2
            try clear hfz13_3
            try clear hfz13_4
            try clear hfz15_0
            try clear hfz15_1
            try clear hfz15_2
            try clear hfz15_3
            try clear hfz15_4
            try clear hfz16_0
            try clear hfz16_1
            try clear hfz16_2
            try clear hfz16_3
            try clear hfz16_4
            try clear hfz19_0
            try clear hfz19_1
            try clear hfz19_2
            try clear hfz19_3
            try clear hfz19_4
            try clear hfz22_0
            try clear hfz22_1
            try clear hfz22_2
            try clear hfz22_3
            try clear hfz22_4
            try clear hfz23_0
            try clear hfz23_1
            try clear hfz23_2
            try clear hfz23_3
            try clear hfz23_4
            try clear hfz6_0
            try clear hfz6_1
            try clear hfz6_2
            try clear hfz6_3
            try clear hfz6_4
            try clear hfz8_0
            try clear hfz8_1
            try clear hfz8_2
            try clear hfz8_3
            try clear hfz8_4
            try clear p2
            obtain ⟨kq, x50_17, rfl, HA, HJ17, BK144, HB⟩ := hcut
            cases kq with
            | zero => exact absurd HA.out (by simp [halberdref03_Right.j1])
            | succ kj17 =>
              have H := HA.out
              clear HA
              simp only [halberdref03_Right.j1] at H
              by_cases c24 : x50_17 = true
              · subst c24
                have H1 : (some false) = some r := by rw [if_pos rfl] at H; exact H
                clear H
                have H := H1
                clear H1
                obtain rfl := Option.some.inj H
                go_wp2
                go_ret
                exact ⟨by first | rfl | (simp [errW_none, errW_some] <;> rfl) | (simp [*, errW_none, errW_some] <;> rfl), by repeat (first | (with_reducible first | exact HB.out | apply below_alloc | apply pw_below_drewN | apply below_drew1 | refine below_set ?_ GE144.out) | exact HB.out)⟩
              · replace c24 := Bool.eq_false_iff.mpr c24
                subst c24
                have H1 : (if ((Int.tdiv a0_0 16) % 256) = 8 then (if ((((Int.tdiv a0_0 8) % 256) % 2) == 1) = true then (some false) else (if a0_2 = 0 then (some (a0_4 == 0)) else (some false))) else (if ((((Int.tdiv a0_0 8) % 256) % 2) == 1) = true then (if a0_2 ≤ 10 then (some (a0_4 == 0)) else (some false)) else (some (a0_2 == 0)))) = some r := by rw [if_neg (show ¬ (false = true) by decide)] at H; exact H
                clear H
                have H := H1
                clear H1
                by_cases c25 : ((Int.tdiv a0_0 16) % 256) = 8
                · rw [if_pos c25] at H
                  have c25b0 : (((Int.tdiv a0_0 16) % 256) == 8) = true := beq_iff_eq.mpr c25
                  have c25b1 : (((Int.tdiv a0_0 16) % 256) != 8) = false := bne_eq_false_iff_eq.mpr c25
                  clear c25
                  by_cases c26 : ((((Int.tdiv a0_0 8) % 256) % 2) == 1) = true
                  · rw [if_pos c26] at H
                    have c26b0 : ((((Int.tdiv a0_0 8) % 256) % 2) == 1) = true := c26
                    (try (have c26b0m := c26b0; rw [Int.emod_emod_of_dvd _ (by decide)] at c26b0m))
                    (try (have c26b1 : decide ((((Int.tdiv a0_0 8) % 256) % 2) = 1) = true := by simpa using c26))
                    (try (have c26b2 : ((((Int.tdiv a0_0 8) % 256) % 2) == 1) = true := by simpa using c26))
                    clear c26
                    obtain rfl := Option.some.inj H
                    go_wp2
                    go_ret
                    exact ⟨by first | rfl | (simp [errW_none, errW_some] <;> rfl) | (simp [*, errW_none, errW_some] <;> rfl), by repeat (first | (with_reducible first | exact HB.out | apply below_alloc | apply pw_below_drewN | apply below_drew1 | refine below_set ?_ GE144.out) | exact HB.out)⟩
                  · rw [if_neg c26] at H
                    have c26b0 : ((((Int.tdiv a0_0 8) % 256) % 2) == 1) = false := by simpa using c26
                    (try (have c26b0m := c26b0; rw [Int.emod_emod_of_dvd _ (by decide)] at c26b0m))
                    (try (have c26b1 : decide ((((Int.tdiv a0_0 8) % 256) % 2) = 1) = false := by simpa using c26))
                    (try (have c26b2 : ((((Int.tdiv a0_0 8) % 256) % 2) == 1) = false := by simpa using c26))
                    (try (have c26b3 : ¬ ((((Int.tdiv a0_0 8) % 256) % 2) = 1) := by simpa using c26))
                    clear c26
                    by_cases c27 : a0_2 = 0
                    · rw [if_pos c27] at H
                      have c27b0 : (a0_2 == 0) = true := beq_iff_eq.mpr c27
                      have c27b1 : (a0_2 != 0) = false := bne_eq_false_iff_eq.mpr c27
                      clear c27
                      obtain rfl := Option.some.inj H
                      have hcz28_0 : wc.cell? ⟨gb144, 0, none⟩ = some (.int .u8 a0_0) := (blk_cell BK144.out 0).trans rfl
                      have hcz28_1 : wc.cell? ⟨gb144, 1, none⟩ = some (.int .u8 a0_1) := (blk_cell BK144.out 1).trans rfl
                      have hcz28_2 : wc.cell? ⟨gb144, 2, none⟩ = some (.int .u8 a0_2) := (blk_cell BK144.out 2).trans rfl
                      have hcz28_3 : wc.cell? ⟨gb144, 3, none⟩ = some (.int .i16 a0_3) := (blk_cell BK144.out 3).trans rfl
                      have hcz28_4 : wc.cell? ⟨gb144, 4, none⟩ = some (.int .i32 a0_4) := (blk_cell BK144.out 4).trans rfl
                      have hfz28_0 := blk_frozen BK144.out 0
                      have hfz28_1 := blk_frozen BK144.out 1
                      have hfz28_2 := blk_frozen BK144.out 2
                      have hfz28_3 := blk_frozen BK144.out 3
                      have hfz28_4 := blk_frozen BK144.out 4
                      go_wp2
                      go_ret
                      exact ⟨by first | rfl | (simp [errW_none, errW_some] <;> rfl) | (simp [*, errW_none, errW_some] <;> rfl), by repeat (first | (with_reducible first | exact HB.out | apply below_alloc | apply pw_below_drewN | apply below_drew1 | refine below_set ?_ GE144.out) | exact HB.out)⟩
                    · rw [if_neg c27] at H
                      have c27b0 : (a0_2 == 0) = false := beq_eq_false_iff_ne.mpr c27
                      have c27b1 : (a0_2 != 0) = true := bne_iff_ne.mpr c27
                      obtain rfl := Option.some.inj H
                      have hcz29_0 : wc.cell? ⟨gb144, 0, none⟩ = some (.int .u8 a0_0) := (blk_cell BK144.out 0).trans rfl
                      have hcz29_1 : wc.cell? ⟨gb144, 1, none⟩ = some (.int .u8 a0_1) := (blk_cell BK144.out 1).trans rfl
                      have hcz29_2 : wc.cell? ⟨gb144, 2, none⟩ = some (.int .u8 a0_2) := (blk_cell BK144.out 2).trans rfl
                      have hcz29_3 : wc.cell? ⟨gb144, 3, none⟩ = some (.int .i16 a0_3) := (blk_cell BK144.out 3).trans rfl
                      have hcz29_4 : wc.cell? ⟨gb144, 4, none⟩ = some (.int .i32 a0_4) := (blk_cell BK144.out 4).trans rfl
                      have hfz29_0 := blk_frozen BK144.out 0
                      have hfz29_1 := blk_frozen BK144.out 1
                      have hfz29_2 := blk_frozen BK144.out 2
                      have hfz29_3 := blk_frozen BK144.out 3
                      have hfz29_4 := blk_frozen BK144.out 4
                      go_wp2
                      go_ret
                      exact ⟨by first | rfl | (simp [errW_none, errW_some] <;> rfl) | (simp [*, errW_none, errW_some] <;> rfl), by repeat (first | (with_reducible first | exact HB.out | apply below_alloc | apply pw_below_drewN | apply below_drew1 | refine below_set ?_ GE144.out) | exact HB.out)⟩
                · rw [if_neg c25] at H
                  have c25b0 : (((Int.tdiv a0_0 16) % 256) == 8) = false := beq_eq_false_iff_ne.mpr c25
                  have c25b1 : (((Int.tdiv a0_0 16) % 256) != 8) = true := bne_iff_ne.mpr c25
                  by_cases c30 : ((((Int.tdiv a0_0 8) % 256) % 2) == 1) = true
                  · rw [if_pos c30] at H
                    have c30b0 : ((((Int.tdiv a0_0 8) % 256) % 2) == 1) = true := c30
                    (try (have c30b0m := c30b0; rw [Int.emod_emod_of_dvd _ (by decide)] at c30b0m))
                    (try (have c30b1 : decide ((((Int.tdiv a0_0 8) % 256) % 2) = 1) = true := by simpa using c30))
                    (try (have c30b2 : ((((Int.tdiv a0_0 8) % 256) % 2) == 1) = true := by simpa using c30))
                    clear c30
                    by_cases c31 : a0_2 ≤ 10
                    · rw [if_pos c31] at H
                      have c31b0 : decide (a0_2 ≤ 10) = true := decide_eq_true c31
                      clear c31
                      obtain rfl := Option.some.inj H
                      have hcz32_0 : wc.cell? ⟨gb144, 0, none⟩ = some (.int .u8 a0_0) := (blk_cell BK144.out 0).trans rfl
                      have hcz32_1 : wc.cell? ⟨gb144, 1, none⟩ = some (.int .u8 a0_1) := (blk_cell BK144.out 1).trans rfl
                      have hcz32_2 : wc.cell? ⟨gb144, 2, none⟩ = some (.int .u8 a0_2) := (blk_cell BK144.out 2).trans rfl
                      have hcz32_3 : wc.cell? ⟨gb144, 3, none⟩ = some (.int .i16 a0_3) := (blk_cell BK144.out 3).trans rfl
                      have hcz32_4 : wc.cell? ⟨gb144, 4, none⟩ = some (.int .i32 a0_4) := (blk_cell BK144.out 4).trans rfl
                      have hfz32_0 := blk_frozen BK144.out 0
                      have hfz32_1 := blk_frozen BK144.out 1
                      have hfz32_2 := blk_frozen BK144.out 2
                      have hfz32_3 := blk_frozen BK144.out 3
                      have hfz32_4 := blk_frozen BK144.out 4
                      go_wp2
                      go_ret
                      exact ⟨by first | rfl | (simp [errW_none, errW_some] <;> rfl) | (simp [*, errW_none, errW_some] <;> rfl), by repeat (first | (with_reducible first | exact HB.out | apply below_alloc | apply pw_below_drewN | apply below_drew1 | refine below_set ?_ GE144.out) | exact HB.out)⟩
                    · rw [if_neg c31] at H
                      have c31b0 : decide (a0_2 ≤ 10) = false := decide_eq_false c31
                      clear c31
                      obtain rfl := Option.some.inj H
                      have hcz33_0 : wc.cell? ⟨gb144, 0, none⟩ = some (.int .u8 a0_0) := (blk_cell BK144.out 0).trans rfl
                      have hcz33_1 : wc.cell? ⟨gb144, 1, none⟩ = some (.int .u8 a0_1) := (blk_cell BK144.out 1).trans rfl
                      have hcz33_2 : wc.cell? ⟨gb144, 2, none⟩ = some (.int .u8 a0_2) := (blk_cell BK144.out 2).trans rfl
                      have hcz33_3 : wc.cell? ⟨gb144, 3, none⟩ = some (.int .i16 a0_3) := (blk_cell BK144.out 3).trans rfl
                      have hcz33_4 : wc.cell? ⟨gb144, 4, none⟩ = some (.int .i32 a0_4) := (blk_cell BK144.out 4).trans rfl
                      have hfz33_0 := blk_frozen BK144.out 0
                      have hfz33_1 := blk_frozen BK144.out 1
                      have hfz33_2 := blk_frozen BK144.out 2
                      have hfz33_3 := blk_frozen BK144.out 3
                      have hfz33_4 := blk_frozen BK144.out 4
                      go_wp2
                      go_ret
                      exact ⟨by first | rfl | (simp [errW_none, errW_some] <;> rfl) | (simp [*, errW_none, errW_some] <;> rfl), by repeat (first | (with_reducible first | exact HB.out | apply below_alloc | apply pw_below_drewN | apply below_drew1 | refine below_set ?_ GE144.out) | exact HB.out)⟩
                  · rw [if_neg c30] at H
                    have c30b0 : ((((Int.tdiv a0_0 8) % 256) % 2) == 1) = false := by simpa using c30
                    (try (have c30b0m := c30b0; rw [Int.emod_emod_of_dvd _ (by decide)] at c30b0m))
                    (try (have c30b1 : decide ((((Int.tdiv a0_0 8) % 256) % 2) = 1) = false := by simpa using c30))
                    (try (have c30b2 : ((((Int.tdiv a0_0 8) % 256) % 2) == 1) = false := by simpa using c30))
                    (try (have c30b3 : ¬ ((((Int.tdiv a0_0 8) % 256) % 2) = 1) := by simpa using c30))
                    clear c30
                    obtain rfl := Option.some.inj H
                    have hcz34_0 : wc.cell? ⟨gb144, 0, none⟩ = some (.int .u8 a0_0) := (blk_cell BK144.out 0).trans rfl
                    have hcz34_1 : wc.cell? ⟨gb144, 1, none⟩ = some (.int .u8 a0_1) := (blk_cell BK144.out 1).trans rfl
                    have hcz34_2 : wc.cell? ⟨gb144, 2, none⟩ = some (.int .u8 a0_2) := (blk_cell BK144.out 2).trans rfl
                    have hcz34_3 : wc.cell? ⟨gb144, 3, none⟩ = some (.int .i16 a0_3) := (blk_cell BK144.out 3).trans rfl
                    have hcz34_4 : wc.cell? ⟨gb144, 4, none⟩ = some (.int .i32 a0_4) := (blk_cell BK144.out 4).trans rfl
                    have hfz34_0 := blk_frozen BK144.out 0
                    have hfz34_1 := blk_frozen BK144.out 1
                    have hfz34_2 := blk_frozen BK144.out 2
                    have hfz34_3 := blk_frozen BK144.out 3
                    have hfz34_4 := blk_frozen BK144.out 4
                    go_wp2
                    go_ret
                    exact ⟨by first | rfl | (simp [errW_none, errW_some] <;> rfl) | (simp [*, errW_none, errW_some] <;> rfl), by repeat (first | (with_reducible first | exact HB.out | apply below_alloc | apply pw_below_drewN | apply below_drew1 | refine below_set ?_ GE144.out) | exact HB.out)⟩
        · replace c17 := Bool.eq_false_iff.mpr c17
          subst c17
          have H1 : ((halberdref03_Conditional.f a0_0).bind fun t145 => (if t145 = true then (if ((((Int.tdiv a0_0 8) % 256) % 2) == 1) = true then (if a0_1 ≤ 10 then (if a0_2 ≤ 10 then (some (a0_4 == 0)) else (some false)) else (some false)) else (if a0_1 ≤ 10 then (some (a0_2 == 0)) else (some false))) else (if a0_0 = 5 then (if a0_1 = 0 then (if a0_2 = 0 then (some (a0_4 == 0)) else (some false)) else (some false)) else (if a0_0 = 133 then (if a0_1 = 0 then (if a0_2 = 0 then (some (a0_3 == 0)) else (some false)) else (some false)) else (if a0_0 = 149 then (some (a0_0 == 149 && (a0_1 == 0 && (a0_2 == 0 && (a0_3 == 0 && (a0_4 == 0)))))) else ((halberdref03_Size.f kj10 a0_0).bind fun t146 => (if t146 = 0 then (some false) else (if (Int.tmod a0_0 8) = 1 then (if a0_1 ≤ 9 then (if a0_2 ≤ 10 then (some (a0_4 == 0)) else (some false)) else (some false)) else (if (Int.tmod a0_0 8) = 2 then (if a0_1 ≤ 10 then (some (a0_2 == 0)) else (some false)) else (if a0_1 ≤ 10 then (if a0_2 ≤ 10 then (some (a0_4 == 0)) else (some false)) else (some false))))))))))) = some r := by rw [if_neg (show ¬ (false = true) by decide)] at H; exact H
          clear H
          have H := H1
          clear H1
          replace H := Option.bind_eq_some_iff.mp H
          obtain ⟨t145, A350, H⟩ := H
          replace H : (if t145 = true then (if ((((Int.tdiv a0_0 8) % 256) % 2) == 1) = true then (if a0_1 ≤ 10 then (if a0_2 ≤ 10 then (some (a0_4 == 0)) else (some false)) else (some false)) else (if a0_1 ≤ 10 then (some (a0_2 == 0)) else (some false))) else (if a0_0 = 5 then (if a0_1 = 0 then (if a0_2 = 0 then (some (a0_4 == 0)) else (some false)) else (some false)) else (if a0_0 = 133 then (if a0_1 = 0 then (if a0_2 = 0 then (some (a0_3 == 0)) else (some false)) else (some false)) else (if a0_0 = 149 then (some (a0_0 == 149 && (a0_1 == 0 && (a0_2 == 0 && (a0_3 == 0 && (a0_4 == 0)))))) else ((halberdref03_Size.f kj10 a0_0).bind fun t146 => (if t146 = 0 then (some false) else (if (Int.tmod a0_0 8) = 1 then (if a0_1 ≤ 9 then (if a0_2 ≤ 10 then (some (a0_4 == 0)) else (some false)) else (some false)) else (if (Int.tmod a0_0 8) = 2 then (if a0_1 ≤ 10 then (some (a0_2 == 0)) else (some false)) else (if a0_1 ≤ 10 then (if a0_2 ≤ 10 then (some (a0_4 == 0)) else (some false)) else (some false)))))))))) = some r := H
          have A35 := Aside0.mk A350
          clear A350
          by_cases c36 : t145 = true
          · subst c36
            have H1 : (if ((((Int.tdiv a0_0 8) % 256) % 2) == 1) = true then (if a0_1 ≤ 10 then (if a0_2 ≤ 10 then (some (a0_4 == 0)) else (some false)) else (some false)) else (if a0_1 ≤ 10 then (some (a0_2 == 0)) else (some false))) = some r := by rw [if_pos rfl] at H; exact H
            clear H
            have H := H1
            clear H1
            by_cases c37 : ((((Int.tdiv a0_0 8) % 256) % 2) == 1) = true
            · rw [if_pos c37] at H
              have c37b0 : ((((Int.tdiv a0_0 8) % 256) % 2) == 1) = true := c37
              (try (have c37b0m := c37b0; rw [Int.emod_emod_of_dvd _ (by decide)] at c37b0m))
              (try (have c37b1 : decide ((((Int.tdiv a0_0 8) % 256) % 2) = 1) = true := by simpa using c37))
              (try (have c37b2 : ((((Int.tdiv a0_0 8) % 256) % 2) == 1) = true := by simpa using c37))
              clear c37
              by_cases c38 : a0_1 ≤ 10
              · rw [if_pos c38] at H
                have c38b0 : decide (a0_1 ≤ 10) = true := decide_eq_true c38
                clear c38
                by_cases c39 : a0_2 ≤ 10
                · rw [if_pos c39] at H
                  have c39b0 : decide (a0_2 ≤ 10) = true := decide_eq_true c39
                  clear c39
                  obtain rfl := Option.some.inj H
                  have hcz40_0 : wc.cell? ⟨gb144, 0, none⟩ = some (.int .u8 a0_0) := (blk_cell BK144.out 0).trans rfl
                  have hcz40_1 : wc.cell? ⟨gb144, 1, none⟩ = some (.int .u8 a0_1) := (blk_cell BK144.out 1).trans rfl
                  have hcz40_2 : wc.cell? ⟨gb144, 2, none⟩ = some (.int .u8 a0_2) := (blk_cell BK144.out 2).trans rfl
                  have hcz40_3 : wc.cell? ⟨gb144, 3, none⟩ = some (.int .i16 a0_3) := (blk_cell BK144.out 3).trans rfl
                  have hcz40_4 : wc.cell? ⟨gb144, 4, none⟩ = some (.int .i32 a0_4) := (blk_cell BK144.out 4).trans rfl
                  have hfz40_0 := blk_frozen BK144.out 0
                  have hfz40_1 := blk_frozen BK144.out 1
                  have hfz40_2 := blk_frozen BK144.out 2
                  have hfz40_3 := blk_frozen BK144.out 3
                  have hfz40_4 := blk_frozen BK144.out 4
                  go_wp2_with (first | ((with_reducible refine gate_callee (f := 20) rfl ?_); refine goesL_ (some 79) rfl rfl Try.func20 (by kernel_rfl) rfl #[.int .u8 a0_0] rfl (by (try simp only [List.map_toArray, List.map_cons, List.map_nil]); first | done | rfl | (simp only [List.length_drop, List.length_take]; rfl)) ?_; (with_reducible refine (halberdref03_Conditional.calls a0_0 true _ A35.out).mono ?_); rintro e w' ⟨rfl, ⟨nd, rfl⟩⟩; refine ⟨_, rfl, ?_⟩))
                  go_ret
                  exact ⟨by first | rfl | (simp [errW_none, errW_some] <;> rfl) | (simp [*, errW_none, errW_some] <;> rfl), by repeat (first | (with_reducible first | exact HB.out | apply below_alloc | apply pw_below_drewN | apply below_drew1 | refine below_set ?_ GE144.out) | exact HB.out)⟩
                · rw [if_neg c39] at H
                  have c39b0 : decide (a0_2 ≤ 10) = false := decide_eq_false c39
                  clear c39
                  obtain rfl := Option.some.inj H
                  have hcz41_0 : wc.cell? ⟨gb144, 0, none⟩ = some (.int .u8 a0_0) := (blk_cell BK144.out 0).trans rfl
                  have hcz41_1 : wc.cell? ⟨gb144, 1, none⟩ = some (.int .u8 a0_1) := (blk_cell BK144.out 1).trans rfl
                  have hcz41_2 : wc.cell? ⟨gb144, 2, none⟩ = some (.int .u8 a0_2) := (blk_cell BK144.out 2).trans rfl
                  have hcz41_3 : wc.cell? ⟨gb144, 3, none⟩ = some (.int .i16 a0_3) := (blk_cell BK144.out 3).trans rfl
                  have hcz41_4 : wc.cell? ⟨gb144, 4, none⟩ = some (.int .i32 a0_4) := (blk_cell BK144.out 4).trans rfl
                  have hfz41_0 := blk_frozen BK144.out 0
                  have hfz41_1 := blk_frozen BK144.out 1
                  have hfz41_2 := blk_frozen BK144.out 2
                  have hfz41_3 := blk_frozen BK144.out 3
                  have hfz41_4 := blk_frozen BK144.out 4
                  go_wp2_with (first | ((with_reducible refine gate_callee (f := 20) rfl ?_); refine goesL_ (some 79) rfl rfl Try.func20 (by kernel_rfl) rfl #[.int .u8 a0_0] rfl (by (try simp only [List.map_toArray, List.map_cons, List.map_nil]); first | done | rfl | (simp only [List.length_drop, List.length_take]; rfl)) ?_; (with_reducible refine (halberdref03_Conditional.calls a0_0 true _ A35.out).mono ?_); rintro e w' ⟨rfl, ⟨nd, rfl⟩⟩; refine ⟨_, rfl, ?_⟩))
                  go_ret
                  exact ⟨by first | rfl | (simp [errW_none, errW_some] <;> rfl) | (simp [*, errW_none, errW_some] <;> rfl), by repeat (first | (with_reducible first | exact HB.out | apply below_alloc | apply pw_below_drewN | apply below_drew1 | refine below_set ?_ GE144.out) | exact HB.out)⟩
              · rw [if_neg c38] at H
                have c38b0 : decide (a0_1 ≤ 10) = false := decide_eq_false c38
                clear c38
                obtain rfl := Option.some.inj H
                have hcz42_0 : wc.cell? ⟨gb144, 0, none⟩ = some (.int .u8 a0_0) := (blk_cell BK144.out 0).trans rfl
                have hcz42_1 : wc.cell? ⟨gb144, 1, none⟩ = some (.int .u8 a0_1) := (blk_cell BK144.out 1).trans rfl
                have hcz42_2 : wc.cell? ⟨gb144, 2, none⟩ = some (.int .u8 a0_2) := (blk_cell BK144.out 2).trans rfl
                have hcz42_3 : wc.cell? ⟨gb144, 3, none⟩ = some (.int .i16 a0_3) := (blk_cell BK144.out 3).trans rfl
                have hcz42_4 : wc.cell? ⟨gb144, 4, none⟩ = some (.int .i32 a0_4) := (blk_cell BK144.out 4).trans rfl
                have hfz42_0 := blk_frozen BK144.out 0
                have hfz42_1 := blk_frozen BK144.out 1
                have hfz42_2 := blk_frozen BK144.out 2
                have hfz42_3 := blk_frozen BK144.out 3
                have hfz42_4 := blk_frozen BK144.out 4
                go_wp2_with (first | ((with_reducible refine gate_callee (f := 20) rfl ?_); refine goesL_ (some 79) rfl rfl Try.func20 (by kernel_rfl) rfl #[.int .u8 a0_0] rfl (by (try simp only [List.map_toArray, List.map_cons, List.map_nil]); first | done | rfl | (simp only [List.length_drop, List.length_take]; rfl)) ?_; (with_reducible refine (halberdref03_Conditional.calls a0_0 true _ A35.out).mono ?_); rintro e w' ⟨rfl, ⟨nd, rfl⟩⟩; refine ⟨_, rfl, ?_⟩))
                go_ret
                exact ⟨by first | rfl | (simp [errW_none, errW_some] <;> rfl) | (simp [*, errW_none, errW_some] <;> rfl), by repeat (first | (with_reducible first | exact HB.out | apply below_alloc | apply pw_below_drewN | apply below_drew1 | refine below_set ?_ GE144.out) | exact HB.out)⟩
            · rw [if_neg c37] at H
              have c37b0 : ((((Int.tdiv a0_0 8) % 256) % 2) == 1) = false := by simpa using c37
              (try (have c37b0m := c37b0; rw [Int.emod_emod_of_dvd _ (by decide)] at c37b0m))
              (try (have c37b1 : decide ((((Int.tdiv a0_0 8) % 256) % 2) = 1) = false := by simpa using c37))
              (try (have c37b2 : ((((Int.tdiv a0_0 8) % 256) % 2) == 1) = false := by simpa using c37))
              (try (have c37b3 : ¬ ((((Int.tdiv a0_0 8) % 256) % 2) = 1) := by simpa using c37))
              clear c37
              by_cases c43 : a0_1 ≤ 10
              · rw [if_pos c43] at H
                have c43b0 : decide (a0_1 ≤ 10) = true := decide_eq_true c43
                clear c43
                obtain rfl := Option.some.inj H
                have hcz44_0 : wc.cell? ⟨gb144, 0, none⟩ = some (.int .u8 a0_0) := (blk_cell BK144.out 0).trans rfl
                have hcz44_1 : wc.cell? ⟨gb144, 1, none⟩ = some (.int .u8 a0_1) := (blk_cell BK144.out 1).trans rfl
                have hcz44_2 : wc.cell? ⟨gb144, 2, none⟩ = some (.int .u8 a0_2) := (blk_cell BK144.out 2).trans rfl
                have hcz44_3 : wc.cell? ⟨gb144, 3, none⟩ = some (.int .i16 a0_3) := (blk_cell BK144.out 3).trans rfl
                have hcz44_4 : wc.cell? ⟨gb144, 4, none⟩ = some (.int .i32 a0_4) := (blk_cell BK144.out 4).trans rfl
                have hfz44_0 := blk_frozen BK144.out 0
                have hfz44_1 := blk_frozen BK144.out 1
                have hfz44_2 := blk_frozen BK144.out 2
                have hfz44_3 := blk_frozen BK144.out 3
                have hfz44_4 := blk_frozen BK144.out 4
                go_wp2_with (first | ((with_reducible refine gate_callee (f := 20) rfl ?_); refine goesL_ (some 79) rfl rfl Try.func20 (by kernel_rfl) rfl #[.int .u8 a0_0] rfl (by (try simp only [List.map_toArray, List.map_cons, List.map_nil]); first | done | rfl | (simp only [List.length_drop, List.length_take]; rfl)) ?_; (with_reducible refine (halberdref03_Conditional.calls a0_0 true _ A35.out).mono ?_); rintro e w' ⟨rfl, ⟨nd, rfl⟩⟩; refine ⟨_, rfl, ?_⟩))
                go_ret
                exact ⟨by first | rfl | (simp [errW_none, errW_some] <;> rfl) | (simp [*, errW_none, errW_some] <;> rfl), by repeat (first | (with_reducible first | exact HB.out | apply below_alloc | apply pw_below_drewN | apply below_drew1 | refine below_set ?_ GE144.out) | exact HB.out)⟩
              · rw [if_neg c43] at H
                have c43b0 : decide (a0_1 ≤ 10) = false := decide_eq_false c43
                clear c43
                obtain rfl := Option.some.inj H
                have hcz45_0 : wc.cell? ⟨gb144, 0, none⟩ = some (.int .u8 a0_0) := (blk_cell BK144.out 0).trans rfl
                have hcz45_1 : wc.cell? ⟨gb144, 1, none⟩ = some (.int .u8 a0_1) := (blk_cell BK144.out 1).trans rfl
                have hcz45_2 : wc.cell? ⟨gb144, 2, none⟩ = some (.int .u8 a0_2) := (blk_cell BK144.out 2).trans rfl
                have hcz45_3 : wc.cell? ⟨gb144, 3, none⟩ = some (.int .i16 a0_3) := (blk_cell BK144.out 3).trans rfl
                have hcz45_4 : wc.cell? ⟨gb144, 4, none⟩ = some (.int .i32 a0_4) := (blk_cell BK144.out 4).trans rfl
                have hfz45_0 := blk_frozen BK144.out 0
                have hfz45_1 := blk_frozen BK144.out 1
                have hfz45_2 := blk_frozen BK144.out 2
                have hfz45_3 := blk_frozen BK144.out 3
                have hfz45_4 := blk_frozen BK144.out 4
                go_wp2_with (first | ((with_reducible refine gate_callee (f := 20) rfl ?_); refine goesL_ (some 79) rfl rfl Try.func20 (by kernel_rfl) rfl #[.int .u8 a0_0] rfl (by (try simp only [List.map_toArray, List.map_cons, List.map_nil]); first | done | rfl | (simp only [List.length_drop, List.length_take]; rfl)) ?_; (with_reducible refine (halberdref03_Conditional.calls a0_0 true _ A35.out).mono ?_); rintro e w' ⟨rfl, ⟨nd, rfl⟩⟩; refine ⟨_, rfl, ?_⟩))
                go_ret
                exact ⟨by first | rfl | (simp [errW_none, errW_some] <;> rfl) | (simp [*, errW_none, errW_some] <;> rfl), by repeat (first | (with_reducible first | exact HB.out | apply below_alloc | apply pw_below_drewN | apply below_drew1 | refine below_set ?_ GE144.out) | exact HB.out)⟩
          · replace c36 := Bool.eq_false_iff.mpr c36
            subst c36
            have H1 : (if a0_0 = 5 then (if a0_1 = 0 then (if a0_2 = 0 then (some (a0_4 == 0)) else (some false)) else (some false)) else (if a0_0 = 133 then (if a0_1 = 0 then (if a0_2 = 0 then (some (a0_3 == 0)) else (some false)) else (some false)) else (if a0_0 = 149 then (some (a0_0 == 149 && (a0_1 == 0 && (a0_2 == 0 && (a0_3 == 0 && (a0_4 == 0)))))) else ((halberdref03_Size.f kj10 a0_0).bind fun t146 => (if t146 = 0 then (some false) else (if (Int.tmod a0_0 8) = 1 then (if a0_1 ≤ 9 then (if a0_2 ≤ 10 then (some (a0_4 == 0)) else (some false)) else (some false)) else (if (Int.tmod a0_0 8) = 2 then (if a0_1 ≤ 10 then (some (a0_2 == 0)) else (some false)) else (if a0_1 ≤ 10 then (if a0_2 ≤ 10 then (some (a0_4 == 0)) else (some false)) else (some false))))))))) = some r := by rw [if_neg (show ¬ (false = true) by decide)] at H; exact H
            clear H
            have H := H1
            clear H1
            by_cases c46 : a0_0 = 5
            · rw [if_pos c46] at H
              have c46b0 : (a0_0 == 5) = true := beq_iff_eq.mpr c46
              have c46b1 : (a0_0 != 5) = false := bne_eq_false_iff_eq.mpr c46
              clear c46
              by_cases c47 : a0_1 = 0
              · rw [if_pos c47] at H
                have c47b0 : (a0_1 == 0) = true := beq_iff_eq.mpr c47
                have c47b1 : (a0_1 != 0) = false := bne_eq_false_iff_eq.mpr c47
                clear c47
                by_cases c48 : a0_2 = 0
                · rw [if_pos c48] at H
                  have c48b0 : (a0_2 == 0) = true := beq_iff_eq.mpr c48
                  have c48b1 : (a0_2 != 0) = false := bne_eq_false_iff_eq.mpr c48
                  clear c48
                  obtain rfl := Option.some.inj H
                  have hcz49_0 : wc.cell? ⟨gb144, 0, none⟩ = some (.int .u8 a0_0) := (blk_cell BK144.out 0).trans rfl
                  have hcz49_1 : wc.cell? ⟨gb144, 1, none⟩ = some (.int .u8 a0_1) := (blk_cell BK144.out 1).trans rfl
                  have hcz49_2 : wc.cell? ⟨gb144, 2, none⟩ = some (.int .u8 a0_2) := (blk_cell BK144.out 2).trans rfl
                  have hcz49_3 : wc.cell? ⟨gb144, 3, none⟩ = some (.int .i16 a0_3) := (blk_cell BK144.out 3).trans rfl
                  have hcz49_4 : wc.cell? ⟨gb144, 4, none⟩ = some (.int .i32 a0_4) := (blk_cell BK144.out 4).trans rfl
                  have hfz49_0 := blk_frozen BK144.out 0
                  have hfz49_1 := blk_frozen BK144.out 1
                  have hfz49_2 := blk_frozen BK144.out 2
                  have hfz49_3 := blk_frozen BK144.out 3
                  have hfz49_4 := blk_frozen BK144.out 4
                  go_wp2_with (first | ((with_reducible refine gate_callee (f := 20) rfl ?_); refine goesL_ (some 79) rfl rfl Try.func20 (by kernel_rfl) rfl #[.int .u8 a0_0] rfl (by (try simp only [List.map_toArray, List.map_cons, List.map_nil]); first | done | rfl | (simp only [List.length_drop, List.length_take]; rfl)) ?_; (with_reducible refine (halberdref03_Conditional.calls a0_0 false _ A35.out).mono ?_); rintro e w' ⟨rfl, ⟨nd, rfl⟩⟩; refine ⟨_, rfl, ?_⟩))
                  go_ret
                  exact ⟨by first | rfl | (simp [errW_none, errW_some] <;> rfl) | (simp [*, errW_none, errW_some] <;> rfl), by repeat (first | (with_reducible first | exact HB.out | apply below_alloc | apply pw_below_drewN | apply below_drew1 | refine below_set ?_ GE144.out) | exact HB.out)⟩
                · rw [if_neg c48] at H
                  have c48b0 : (a0_2 == 0) = false := beq_eq_false_iff_ne.mpr c48
                  have c48b1 : (a0_2 != 0) = true := bne_iff_ne.mpr c48
                  obtain rfl := Option.some.inj H
                  have hcz50_0 : wc.cell? ⟨gb144, 0, none⟩ = some (.int .u8 a0_0) := (blk_cell BK144.out 0).trans rfl
                  have hcz50_1 : wc.cell? ⟨gb144, 1, none⟩ = some (.int .u8 a0_1) := (blk_cell BK144.out 1).trans rfl
                  have hcz50_2 : wc.cell? ⟨gb144, 2, none⟩ = some (.int .u8 a0_2) := (blk_cell BK144.out 2).trans rfl
                  have hcz50_3 : wc.cell? ⟨gb144, 3, none⟩ = some (.int .i16 a0_3) := (blk_cell BK144.out 3).trans rfl
                  have hcz50_4 : wc.cell? ⟨gb144, 4, none⟩ = some (.int .i32 a0_4) := (blk_cell BK144.out 4).trans rfl
                  have hfz50_0 := blk_frozen BK144.out 0
                  have hfz50_1 := blk_frozen BK144.out 1
                  have hfz50_2 := blk_frozen BK144.out 2
                  have hfz50_3 := blk_frozen BK144.out 3
                  have hfz50_4 := blk_frozen BK144.out 4
                  go_wp2_with (first | ((with_reducible refine gate_callee (f := 20) rfl ?_); refine goesL_ (some 79) rfl rfl Try.func20 (by kernel_rfl) rfl #[.int .u8 a0_0] rfl (by (try simp only [List.map_toArray, List.map_cons, List.map_nil]); first | done | rfl | (simp only [List.length_drop, List.length_take]; rfl)) ?_; (with_reducible refine (halberdref03_Conditional.calls a0_0 false _ A35.out).mono ?_); rintro e w' ⟨rfl, ⟨nd, rfl⟩⟩; refine ⟨_, rfl, ?_⟩))
                  go_ret
                  exact ⟨by first | rfl | (simp [errW_none, errW_some] <;> rfl) | (simp [*, errW_none, errW_some] <;> rfl), by repeat (first | (with_reducible first | exact HB.out | apply below_alloc | apply pw_below_drewN | apply below_drew1 | refine below_set ?_ GE144.out) | exact HB.out)⟩
              · rw [if_neg c47] at H
                have c47b0 : (a0_1 == 0) = false := beq_eq_false_iff_ne.mpr c47
                have c47b1 : (a0_1 != 0) = true := bne_iff_ne.mpr c47
                obtain rfl := Option.some.inj H
                have hcz51_0 : wc.cell? ⟨gb144, 0, none⟩ = some (.int .u8 a0_0) := (blk_cell BK144.out 0).trans rfl
                have hcz51_1 : wc.cell? ⟨gb144, 1, none⟩ = some (.int .u8 a0_1) := (blk_cell BK144.out 1).trans rfl
                have hcz51_2 : wc.cell? ⟨gb144, 2, none⟩ = some (.int .u8 a0_2) := (blk_cell BK144.out 2).trans rfl
                have hcz51_3 : wc.cell? ⟨gb144, 3, none⟩ = some (.int .i16 a0_3) := (blk_cell BK144.out 3).trans rfl
                have hcz51_4 : wc.cell? ⟨gb144, 4, none⟩ = some (.int .i32 a0_4) := (blk_cell BK144.out 4).trans rfl
                have hfz51_0 := blk_frozen BK144.out 0
                have hfz51_1 := blk_frozen BK144.out 1
                have hfz51_2 := blk_frozen BK144.out 2
                have hfz51_3 := blk_frozen BK144.out 3
                have hfz51_4 := blk_frozen BK144.out 4
                go_wp2_with (first | ((with_reducible refine gate_callee (f := 20) rfl ?_); refine goesL_ (some 79) rfl rfl Try.func20 (by kernel_rfl) rfl #[.int .u8 a0_0] rfl (by (try simp only [List.map_toArray, List.map_cons, List.map_nil]); first | done | rfl | (simp only [List.length_drop, List.length_take]; rfl)) ?_; (with_reducible refine (halberdref03_Conditional.calls a0_0 false _ A35.out).mono ?_); rintro e w' ⟨rfl, ⟨nd, rfl⟩⟩; refine ⟨_, rfl, ?_⟩))
                go_ret
                exact ⟨by first | rfl | (simp [errW_none, errW_some] <;> rfl) | (simp [*, errW_none, errW_some] <;> rfl), by repeat (first | (with_reducible first | exact HB.out | apply below_alloc | apply pw_below_drewN | apply below_drew1 | refine below_set ?_ GE144.out) | exact HB.out)⟩
            · rw [if_neg c46] at H
              have c46b0 : (a0_0 == 5) = false := beq_eq_false_iff_ne.mpr c46
              have c46b1 : (a0_0 != 5) = true := bne_iff_ne.mpr c46
              by_cases c52 : a0_0 = 133
              · rw [if_pos c52] at H
                have c52b0 : (a0_0 == 133) = true := beq_iff_eq.mpr c52
                have c52b1 : (a0_0 != 133) = false := bne_eq_false_iff_eq.mpr c52
                clear c52
                by_cases c53 : a0_1 = 0
                · rw [if_pos c53] at H
                  have c53b0 : (a0_1 == 0) = true := beq_iff_eq.mpr c53
                  have c53b1 : (a0_1 != 0) = false := bne_eq_false_iff_eq.mpr c53
                  clear c53
                  by_cases c54 : a0_2 = 0
                  · rw [if_pos c54] at H
                    have c54b0 : (a0_2 == 0) = true := beq_iff_eq.mpr c54
                    have c54b1 : (a0_2 != 0) = false := bne_eq_false_iff_eq.mpr c54
                    clear c54
                    obtain rfl := Option.some.inj H
                    have hcz55_0 : wc.cell? ⟨gb144, 0, none⟩ = some (.int .u8 a0_0) := (blk_cell BK144.out 0).trans rfl
                    have hcz55_1 : wc.cell? ⟨gb144, 1, none⟩ = some (.int .u8 a0_1) := (blk_cell BK144.out 1).trans rfl
                    have hcz55_2 : wc.cell? ⟨gb144, 2, none⟩ = some (.int .u8 a0_2) := (blk_cell BK144.out 2).trans rfl
                    have hcz55_3 : wc.cell? ⟨gb144, 3, none⟩ = some (.int .i16 a0_3) := (blk_cell BK144.out 3).trans rfl
                    have hcz55_4 : wc.cell? ⟨gb144, 4, none⟩ = some (.int .i32 a0_4) := (blk_cell BK144.out 4).trans rfl
                    have hfz55_0 := blk_frozen BK144.out 0
                    have hfz55_1 := blk_frozen BK144.out 1
                    have hfz55_2 := blk_frozen BK144.out 2
                    have hfz55_3 := blk_frozen BK144.out 3
                    have hfz55_4 := blk_frozen BK144.out 4
                    go_wp2_with (first | ((with_reducible refine gate_callee (f := 20) rfl ?_); refine goesL_ (some 79) rfl rfl Try.func20 (by kernel_rfl) rfl #[.int .u8 a0_0] rfl (by (try simp only [List.map_toArray, List.map_cons, List.map_nil]); first | done | rfl | (simp only [List.length_drop, List.length_take]; rfl)) ?_; (with_reducible refine (halberdref03_Conditional.calls a0_0 false _ A35.out).mono ?_); rintro e w' ⟨rfl, ⟨nd, rfl⟩⟩; refine ⟨_, rfl, ?_⟩))
                    go_ret
                    exact ⟨by first | rfl | (simp [errW_none, errW_some] <;> rfl) | (simp [*, errW_none, errW_some] <;> rfl), by repeat (first | (with_reducible first | exact HB.out | apply below_alloc | apply pw_below_drewN | apply below_drew1 | refine below_set ?_ GE144.out) | exact HB.out)⟩
                  · rw [if_neg c54] at H
                    have c54b0 : (a0_2 == 0) = false := beq_eq_false_iff_ne.mpr c54
                    have c54b1 : (a0_2 != 0) = true := bne_iff_ne.mpr c54
                    obtain rfl := Option.some.inj H
                    have hcz56_0 : wc.cell? ⟨gb144, 0, none⟩ = some (.int .u8 a0_0) := (blk_cell BK144.out 0).trans rfl
                    have hcz56_1 : wc.cell? ⟨gb144, 1, none⟩ = some (.int .u8 a0_1) := (blk_cell BK144.out 1).trans rfl
                    have hcz56_2 : wc.cell? ⟨gb144, 2, none⟩ = some (.int .u8 a0_2) := (blk_cell BK144.out 2).trans rfl
                    have hcz56_3 : wc.cell? ⟨gb144, 3, none⟩ = some (.int .i16 a0_3) := (blk_cell BK144.out 3).trans rfl
                    have hcz56_4 : wc.cell? ⟨gb144, 4, none⟩ = some (.int .i32 a0_4) := (blk_cell BK144.out 4).trans rfl
                    have hfz56_0 := blk_frozen BK144.out 0
                    have hfz56_1 := blk_frozen BK144.out 1
                    have hfz56_2 := blk_frozen BK144.out 2
                    have hfz56_3 := blk_frozen BK144.out 3
                    have hfz56_4 := blk_frozen BK144.out 4
                    go_wp2_with (first | ((with_reducible refine gate_callee (f := 20) rfl ?_); refine goesL_ (some 79) rfl rfl Try.func20 (by kernel_rfl) rfl #[.int .u8 a0_0] rfl (by (try simp only [List.map_toArray, List.map_cons, List.map_nil]); first | done | rfl | (simp only [List.length_drop, List.length_take]; rfl)) ?_; (with_reducible refine (halberdref03_Conditional.calls a0_0 false _ A35.out).mono ?_); rintro e w' ⟨rfl, ⟨nd, rfl⟩⟩; refine ⟨_, rfl, ?_⟩))
                    go_ret
                    exact ⟨by first | rfl | (simp [errW_none, errW_some] <;> rfl) | (simp [*, errW_none, errW_some] <;> rfl), by repeat (first | (with_reducible first | exact HB.out | apply below_alloc | apply pw_below_drewN | apply below_drew1 | refine below_set ?_ GE144.out) | exact HB.out)⟩
                · rw [if_neg c53] at H
                  have c53b0 : (a0_1 == 0) = false := beq_eq_false_iff_ne.mpr c53
                  have c53b1 : (a0_1 != 0) = true := bne_iff_ne.mpr c53
                  obtain rfl := Option.some.inj H
                  have hcz57_0 : wc.cell? ⟨gb144, 0, none⟩ = some (.int .u8 a0_0) := (blk_cell BK144.out 0).trans rfl
                  have hcz57_1 : wc.cell? ⟨gb144, 1, none⟩ = some (.int .u8 a0_1) := (blk_cell BK144.out 1).trans rfl
                  have hcz57_2 : wc.cell? ⟨gb144, 2, none⟩ = some (.int .u8 a0_2) := (blk_cell BK144.out 2).trans rfl
                  have hcz57_3 : wc.cell? ⟨gb144, 3, none⟩ = some (.int .i16 a0_3) := (blk_cell BK144.out 3).trans rfl
                  have hcz57_4 : wc.cell? ⟨gb144, 4, none⟩ = some (.int .i32 a0_4) := (blk_cell BK144.out 4).trans rfl
                  have hfz57_0 := blk_frozen BK144.out 0
                  have hfz57_1 := blk_frozen BK144.out 1
                  have hfz57_2 := blk_frozen BK144.out 2
                  have hfz57_3 := blk_frozen BK144.out 3
                  have hfz57_4 := blk_frozen BK144.out 4
                  go_wp2_with (first | ((with_reducible refine gate_callee (f := 20) rfl ?_); refine goesL_ (some 79) rfl rfl Try.func20 (by kernel_rfl) rfl #[.int .u8 a0_0] rfl (by (try simp only [List.map_toArray, List.map_cons, List.map_nil]); first | done | rfl | (simp only [List.length_drop, List.length_take]; rfl)) ?_; (with_reducible refine (halberdref03_Conditional.calls a0_0 false _ A35.out).mono ?_); rintro e w' ⟨rfl, ⟨nd, rfl⟩⟩; refine ⟨_, rfl, ?_⟩))
                  go_ret
                  exact ⟨by first | rfl | (simp [errW_none, errW_some] <;> rfl) | (simp [*, errW_none, errW_some] <;> rfl), by repeat (first | (with_reducible first | exact HB.out | apply below_alloc | apply pw_below_drewN | apply below_drew1 | refine below_set ?_ GE144.out) | exact HB.out)⟩
              · rw [if_neg c52] at H
                have c52b0 : (a0_0 == 133) = false := beq_eq_false_iff_ne.mpr c52
                have c52b1 : (a0_0 != 133) = true := bne_iff_ne.mpr c52
                by_cases c58 : a0_0 = 149
                · rw [if_pos c58] at H
                  have c58b0 : (a0_0 == 149) = true := beq_iff_eq.mpr c58
                  have c58b1 : (a0_0 != 149) = false := bne_eq_false_iff_eq.mpr c58
                  clear c58
                  obtain rfl := Option.some.inj H
                  have hcz59_0 : wc.cell? ⟨gb144, 0, none⟩ = some (.int .u8 a0_0) := (blk_cell BK144.out 0).trans rfl
                  have hcz59_1 : wc.cell? ⟨gb144, 1, none⟩ = some (.int .u8 a0_1) := (blk_cell BK144.out 1).trans rfl
                  have hcz59_2 : wc.cell? ⟨gb144, 2, none⟩ = some (.int .u8 a0_2) := (blk_cell BK144.out 2).trans rfl
                  have hcz59_3 : wc.cell? ⟨gb144, 3, none⟩ = some (.int .i16 a0_3) := (blk_cell BK144.out 3).trans rfl
                  have hcz59_4 : wc.cell? ⟨gb144, 4, none⟩ = some (.int .i32 a0_4) := (blk_cell BK144.out 4).trans rfl
                  have hfz59_0 := blk_frozen BK144.out 0
                  have hfz59_1 := blk_frozen BK144.out 1
                  have hfz59_2 := blk_frozen BK144.out 2
                  have hfz59_3 := blk_frozen BK144.out 3
                  have hfz59_4 := blk_frozen BK144.out 4
                  go_wp2_with (first | ((with_reducible refine gate_callee (f := 20) rfl ?_); refine goesL_ (some 79) rfl rfl Try.func20 (by kernel_rfl) rfl #[.int .u8 a0_0] rfl (by (try simp only [List.map_toArray, List.map_cons, List.map_nil]); first | done | rfl | (simp only [List.length_drop, List.length_take]; rfl)) ?_; (with_reducible refine (halberdref03_Conditional.calls a0_0 false _ A35.out).mono ?_); rintro e w' ⟨rfl, ⟨nd, rfl⟩⟩; refine ⟨_, rfl, ?_⟩))
                  go_ret
                  exact ⟨by first | rfl | (simp [errW_none, errW_some] <;> rfl) | (simp [*, errW_none, errW_some] <;> rfl), by repeat (first | (with_reducible first | exact HB.out | apply below_alloc | apply pw_below_drewN | apply below_drew1 | refine below_set ?_ GE144.out) | exact HB.out)⟩
                · rw [if_neg c58] at H
                  have c58b0 : (a0_0 == 149) = false := beq_eq_false_iff_ne.mpr c58
                  have c58b1 : (a0_0 != 149) = true := bne_iff_ne.mpr c58
                  replace H := Option.bind_eq_some_iff.mp H
                  obtain ⟨t146, A600, H⟩ := H
                  replace H : (if t146 = 0 then (some false) else (if (Int.tmod a0_0 8) = 1 then (if a0_1 ≤ 9 then (if a0_2 ≤ 10 then (some (a0_4 == 0)) else (some false)) else (some false)) else (if (Int.tmod a0_0 8) = 2 then (if a0_1 ≤ 10 then (some (a0_2 == 0)) else (some false)) else (if a0_1 ≤ 10 then (if a0_2 ≤ 10 then (some (a0_4 == 0)) else (some false)) else (some false))))) = some r := H
                  have A60 := Aside0.mk A600
                  clear A600
                  by_cases c61 : t146 = 0
                  · rw [if_pos c61] at H
                    have c61b0 : (t146 == 0) = true := beq_iff_eq.mpr c61
                    have c61b1 : (t146 != 0) = false := bne_eq_false_iff_eq.mpr c61
                    clear c61
                    obtain rfl := Option.some.inj H
                    have hcz62_0 : wc.cell? ⟨gb144, 0, none⟩ = some (.int .u8 a0_0) := (blk_cell BK144.out 0).trans rfl
                    have hcz62_1 : wc.cell? ⟨gb144, 1, none⟩ = some (.int .u8 a0_1) := (blk_cell BK144.out 1).trans rfl
                    have hcz62_2 : wc.cell? ⟨gb144, 2, none⟩ = some (.int .u8 a0_2) := (blk_cell BK144.out 2).trans rfl
                    have hcz62_3 : wc.cell? ⟨gb144, 3, none⟩ = some (.int .i16 a0_3) := (blk_cell BK144.out 3).trans rfl
                    have hcz62_4 : wc.cell? ⟨gb144, 4, none⟩ = some (.int .i32 a0_4) := (blk_cell BK144.out 4).trans rfl
                    have hfz62_0 := blk_frozen BK144.out 0
                    have hfz62_1 := blk_frozen BK144.out 1
                    have hfz62_2 := blk_frozen BK144.out 2
                    have hfz62_3 := blk_frozen BK144.out 3
                    have hfz62_4 := blk_frozen BK144.out 4
                    go_wp2_with (first | ((with_reducible refine gate_callee (f := 20) rfl ?_); refine goesL_ (some 79) rfl rfl Try.func20 (by kernel_rfl) rfl #[.int .u8 a0_0] rfl (by (try simp only [List.map_toArray, List.map_cons, List.map_nil]); first | done | rfl | (simp only [List.length_drop, List.length_take]; rfl)) ?_; (with_reducible refine (halberdref03_Conditional.calls a0_0 false _ A35.out).mono ?_); rintro e w' ⟨rfl, ⟨nd, rfl⟩⟩; refine ⟨_, rfl, ?_⟩) | ((with_reducible refine gate_callee (f := 13) rfl ?_); refine goesL_ (some 142) rfl rfl Try.func13 (by kernel_rfl) rfl #[.int .u8 a0_0] rfl (by (try simp only [List.map_toArray, List.map_cons, List.map_nil]); first | done | rfl | (simp only [List.length_drop, List.length_take]; rfl)) ?_; (with_reducible refine (halberdref03_Size.calls kj10 a0_0 t146 _ A60.out).mono ?_); rintro e w' ⟨rfl, ⟨nd, rfl⟩⟩; refine ⟨_, rfl, ?_⟩))
                    go_ret
                    exact ⟨by first | rfl | (simp [errW_none, errW_some] <;> rfl) | (simp [*, errW_none, errW_some] <;> rfl), by repeat (first | (with_reducible first | exact HB.out | apply below_alloc | apply pw_below_drewN | apply below_drew1 | refine below_set ?_ GE144.out) | exact HB.out)⟩
                  · rw [if_neg c61] at H
                    have c61b0 : (t146 == 0) = false := beq_eq_false_iff_ne.mpr c61
                    have c61b1 : (t146 != 0) = true := bne_iff_ne.mpr c61
                    by_cases c63 : (Int.tmod a0_0 8) = 1
                    · rw [if_pos c63] at H
                      have c63b0 : ((Int.tmod a0_0 8) == 1) = true := beq_iff_eq.mpr c63
                      have c63b1 : ((Int.tmod a0_0 8) != 1) = false := bne_eq_false_iff_eq.mpr c63
                      clear c63
                      by_cases c64 : a0_1 ≤ 9
                      · rw [if_pos c64] at H
                        have c64b0 : decide (a0_1 ≤ 9) = true := decide_eq_true c64
                        clear c64
                        by_cases c65 : a0_2 ≤ 10
                        · rw [if_pos c65] at H
                          have c65b0 : decide (a0_2 ≤ 10) = true := decide_eq_true c65
                          clear c65
                          obtain rfl := Option.some.inj H
                          have hcz66_0 : wc.cell? ⟨gb144, 0, none⟩ = some (.int .u8 a0_0) := (blk_cell BK144.out 0).trans rfl
                          have hcz66_1 : wc.cell? ⟨gb144, 1, none⟩ = some (.int .u8 a0_1) := (blk_cell BK144.out 1).trans rfl
                          have hcz66_2 : wc.cell? ⟨gb144, 2, none⟩ = some (.int .u8 a0_2) := (blk_cell BK144.out 2).trans rfl
                          have hcz66_3 : wc.cell? ⟨gb144, 3, none⟩ = some (.int .i16 a0_3) := (blk_cell BK144.out 3).trans rfl
                          have hcz66_4 : wc.cell? ⟨gb144, 4, none⟩ = some (.int .i32 a0_4) := (blk_cell BK144.out 4).trans rfl
                          have hfz66_0 := blk_frozen BK144.out 0
                          have hfz66_1 := blk_frozen BK144.out 1
                          have hfz66_2 := blk_frozen BK144.out 2
                          have hfz66_3 := blk_frozen BK144.out 3
                          have hfz66_4 := blk_frozen BK144.out 4
                          go_wp2_with (first | ((with_reducible refine gate_callee (f := 20) rfl ?_); refine goesL_ (some 79) rfl rfl Try.func20 (by kernel_rfl) rfl #[.int .u8 a0_0] rfl (by (try simp only [List.map_toArray, List.map_cons, List.map_nil]); first | done | rfl | (simp only [List.length_drop, List.length_take]; rfl)) ?_; (with_reducible refine (halberdref03_Conditional.calls a0_0 false _ A35.out).mono ?_); rintro e w' ⟨rfl, ⟨nd, rfl⟩⟩; refine ⟨_, rfl, ?_⟩) | ((with_reducible refine gate_callee (f := 13) rfl ?_); refine goesL_ (some 142) rfl rfl Try.func13 (by kernel_rfl) rfl #[.int .u8 a0_0] rfl (by (try simp only [List.map_toArray, List.map_cons, List.map_nil]); first | done | rfl | (simp only [List.length_drop, List.length_take]; rfl)) ?_; (with_reducible refine (halberdref03_Size.calls kj10 a0_0 t146 _ A60.out).mono ?_); rintro e w' ⟨rfl, ⟨nd, rfl⟩⟩; refine ⟨_, rfl, ?_⟩))
                          go_ret
                          exact ⟨by first | rfl | (simp [errW_none, errW_some] <;> rfl) | (simp [*, errW_none, errW_some] <;> rfl), by repeat (first | (with_reducible first | exact HB.out | apply below_alloc | apply pw_below_drewN | apply below_drew1 | refine below_set ?_ GE144.out) | exact HB.out)⟩
                        · rw [if_neg c65] at H
                          have c65b0 : decide (a0_2 ≤ 10) = false := decide_eq_false c65
                          clear c65
                          obtain rfl := Option.some.inj H
                          have hcz67_0 : wc.cell? ⟨gb144, 0, none⟩ = some (.int .u8 a0_0) := (blk_cell BK144.out 0).trans rfl
                          have hcz67_1 : wc.cell? ⟨gb144, 1, none⟩ = some (.int .u8 a0_1) := (blk_cell BK144.out 1).trans rfl
                          have hcz67_2 : wc.cell? ⟨gb144, 2, none⟩ = some (.int .u8 a0_2) := (blk_cell BK144.out 2).trans rfl
                          have hcz67_3 : wc.cell? ⟨gb144, 3, none⟩ = some (.int .i16 a0_3) := (blk_cell BK144.out 3).trans rfl
                          have hcz67_4 : wc.cell? ⟨gb144, 4, none⟩ = some (.int .i32 a0_4) := (blk_cell BK144.out 4).trans rfl
                          have hfz67_0 := blk_frozen BK144.out 0
                          have hfz67_1 := blk_frozen BK144.out 1
                          have hfz67_2 := blk_frozen BK144.out 2
                          have hfz67_3 := blk_frozen BK144.out 3
                          have hfz67_4 := blk_frozen BK144.out 4
                          go_wp2_with (first | ((with_reducible refine gate_callee (f := 20) rfl ?_); refine goesL_ (some 79) rfl rfl Try.func20 (by kernel_rfl) rfl #[.int .u8 a0_0] rfl (by (try simp only [List.map_toArray, List.map_cons, List.map_nil]); first | done | rfl | (simp only [List.length_drop, List.length_take]; rfl)) ?_; (with_reducible refine (halberdref03_Conditional.calls a0_0 false _ A35.out).mono ?_); rintro e w' ⟨rfl, ⟨nd, rfl⟩⟩; refine ⟨_, rfl, ?_⟩) | ((with_reducible refine gate_callee (f := 13) rfl ?_); refine goesL_ (some 142) rfl rfl Try.func13 (by kernel_rfl) rfl #[.int .u8 a0_0] rfl (by (try simp only [List.map_toArray, List.map_cons, List.map_nil]); first | done | rfl | (simp only [List.length_drop, List.length_take]; rfl)) ?_; (with_reducible refine (halberdref03_Size.calls kj10 a0_0 t146 _ A60.out).mono ?_); rintro e w' ⟨rfl, ⟨nd, rfl⟩⟩; refine ⟨_, rfl, ?_⟩))
                          go_ret
                          exact ⟨by first | rfl | (simp [errW_none, errW_some] <;> rfl) | (simp [*, errW_none, errW_some] <;> rfl), by repeat (first | (with_reducible first | exact HB.out | apply below_alloc | apply pw_below_drewN | apply below_drew1 | refine below_set ?_ GE144.out) | exact HB.out)⟩
                      · rw [if_neg c64] at H
                        have c64b0 : decide (a0_1 ≤ 9) = false := decide_eq_false c64
                        clear c64
                        obtain rfl := Option.some.inj H
                        have hcz68_0 : wc.cell? ⟨gb144, 0, none⟩ = some (.int .u8 a0_0) := (blk_cell BK144.out 0).trans rfl
                        have hcz68_1 : wc.cell? ⟨gb144, 1, none⟩ = some (.int .u8 a0_1) := (blk_cell BK144.out 1).trans rfl
                        have hcz68_2 : wc.cell? ⟨gb144, 2, none⟩ = some (.int .u8 a0_2) := (blk_cell BK144.out 2).trans rfl
                        have hcz68_3 : wc.cell? ⟨gb144, 3, none⟩ = some (.int .i16 a0_3) := (blk_cell BK144.out 3).trans rfl
                        have hcz68_4 : wc.cell? ⟨gb144, 4, none⟩ = some (.int .i32 a0_4) := (blk_cell BK144.out 4).trans rfl
                        have hfz68_0 := blk_frozen BK144.out 0
                        have hfz68_1 := blk_frozen BK144.out 1
                        have hfz68_2 := blk_frozen BK144.out 2
                        have hfz68_3 := blk_frozen BK144.out 3
                        have hfz68_4 := blk_frozen BK144.out 4
                        go_wp2_with (first | ((with_reducible refine gate_callee (f := 20) rfl ?_); refine goesL_ (some 79) rfl rfl Try.func20 (by kernel_rfl) rfl #[.int .u8 a0_0] rfl (by (try simp only [List.map_toArray, List.map_cons, List.map_nil]); first | done | rfl | (simp only [List.length_drop, List.length_take]; rfl)) ?_; (with_reducible refine (halberdref03_Conditional.calls a0_0 false _ A35.out).mono ?_); rintro e w' ⟨rfl, ⟨nd, rfl⟩⟩; refine ⟨_, rfl, ?_⟩) | ((with_reducible refine gate_callee (f := 13) rfl ?_); refine goesL_ (some 142) rfl rfl Try.func13 (by kernel_rfl) rfl #[.int .u8 a0_0] rfl (by (try simp only [List.map_toArray, List.map_cons, List.map_nil]); first | done | rfl | (simp only [List.length_drop, List.length_take]; rfl)) ?_; (with_reducible refine (halberdref03_Size.calls kj10 a0_0 t146 _ A60.out).mono ?_); rintro e w' ⟨rfl, ⟨nd, rfl⟩⟩; refine ⟨_, rfl, ?_⟩))
                        go_ret
                        exact ⟨by first | rfl | (simp [errW_none, errW_some] <;> rfl) | (simp [*, errW_none, errW_some] <;> rfl), by repeat (first | (with_reducible first | exact HB.out | apply below_alloc | apply pw_below_drewN | apply below_drew1 | refine below_set ?_ GE144.out) | exact HB.out)⟩
                    · rw [if_neg c63] at H
                      have c63b0 : ((Int.tmod a0_0 8) == 1) = false := beq_eq_false_iff_ne.mpr c63
                      have c63b1 : ((Int.tmod a0_0 8) != 1) = true := bne_iff_ne.mpr c63
                      by_cases c69 : (Int.tmod a0_0 8) = 2
                      · rw [if_pos c69] at H
                        have c69b0 : ((Int.tmod a0_0 8) == 2) = true := beq_iff_eq.mpr c69
                        have c69b1 : ((Int.tmod a0_0 8) != 2) = false := bne_eq_false_iff_eq.mpr c69
                        clear c69
                        by_cases c70 : a0_1 ≤ 10
                        · rw [if_pos c70] at H
                          have c70b0 : decide (a0_1 ≤ 10) = true := decide_eq_true c70
                          clear c70
                          obtain rfl := Option.some.inj H
                          have hcz71_0 : wc.cell? ⟨gb144, 0, none⟩ = some (.int .u8 a0_0) := (blk_cell BK144.out 0).trans rfl
                          have hcz71_1 : wc.cell? ⟨gb144, 1, none⟩ = some (.int .u8 a0_1) := (blk_cell BK144.out 1).trans rfl
                          have hcz71_2 : wc.cell? ⟨gb144, 2, none⟩ = some (.int .u8 a0_2) := (blk_cell BK144.out 2).trans rfl
                          have hcz71_3 : wc.cell? ⟨gb144, 3, none⟩ = some (.int .i16 a0_3) := (blk_cell BK144.out 3).trans rfl
                          have hcz71_4 : wc.cell? ⟨gb144, 4, none⟩ = some (.int .i32 a0_4) := (blk_cell BK144.out 4).trans rfl
                          have hfz71_0 := blk_frozen BK144.out 0
                          have hfz71_1 := blk_frozen BK144.out 1
                          have hfz71_2 := blk_frozen BK144.out 2
                          have hfz71_3 := blk_frozen BK144.out 3
                          have hfz71_4 := blk_frozen BK144.out 4
                          go_wp2_with (first | ((with_reducible refine gate_callee (f := 20) rfl ?_); refine goesL_ (some 79) rfl rfl Try.func20 (by kernel_rfl) rfl #[.int .u8 a0_0] rfl (by (try simp only [List.map_toArray, List.map_cons, List.map_nil]); first | done | rfl | (simp only [List.length_drop, List.length_take]; rfl)) ?_; (with_reducible refine (halberdref03_Conditional.calls a0_0 false _ A35.out).mono ?_); rintro e w' ⟨rfl, ⟨nd, rfl⟩⟩; refine ⟨_, rfl, ?_⟩) | ((with_reducible refine gate_callee (f := 13) rfl ?_); refine goesL_ (some 142) rfl rfl Try.func13 (by kernel_rfl) rfl #[.int .u8 a0_0] rfl (by (try simp only [List.map_toArray, List.map_cons, List.map_nil]); first | done | rfl | (simp only [List.length_drop, List.length_take]; rfl)) ?_; (with_reducible refine (halberdref03_Size.calls kj10 a0_0 t146 _ A60.out).mono ?_); rintro e w' ⟨rfl, ⟨nd, rfl⟩⟩; refine ⟨_, rfl, ?_⟩))
                          go_ret
                          exact ⟨by first | rfl | (simp [errW_none, errW_some] <;> rfl) | (simp [*, errW_none, errW_some] <;> rfl), by repeat (first | (with_reducible first | exact HB.out | apply below_alloc | apply pw_below_drewN | apply below_drew1 | refine below_set ?_ GE144.out) | exact HB.out)⟩
                        · rw [if_neg c70] at H
                          have c70b0 : decide (a0_1 ≤ 10) = false := decide_eq_false c70
                          clear c70
                          obtain rfl := Option.some.inj H
                          have hcz72_0 : wc.cell? ⟨gb144, 0, none⟩ = some (.int .u8 a0_0) := (blk_cell BK144.out 0).trans rfl
                          have hcz72_1 : wc.cell? ⟨gb144, 1, none⟩ = some (.int .u8 a0_1) := (blk_cell BK144.out 1).trans rfl
                          have hcz72_2 : wc.cell? ⟨gb144, 2, none⟩ = some (.int .u8 a0_2) := (blk_cell BK144.out 2).trans rfl
                          have hcz72_3 : wc.cell? ⟨gb144, 3, none⟩ = some (.int .i16 a0_3) := (blk_cell BK144.out 3).trans rfl
                          have hcz72_4 : wc.cell? ⟨gb144, 4, none⟩ = some (.int .i32 a0_4) := (blk_cell BK144.out 4).trans rfl
                          have hfz72_0 := blk_frozen BK144.out 0
                          have hfz72_1 := blk_frozen BK144.out 1
                          have hfz72_2 := blk_frozen BK144.out 2
                          have hfz72_3 := blk_frozen BK144.out 3
                          have hfz72_4 := blk_frozen BK144.out 4
                          go_wp2_with (first | ((with_reducible refine gate_callee (f := 20) rfl ?_); refine goesL_ (some 79) rfl rfl Try.func20 (by kernel_rfl) rfl #[.int .u8 a0_0] rfl (by (try simp only [List.map_toArray, List.map_cons, List.map_nil]); first | done | rfl | (simp only [List.length_drop, List.length_take]; rfl)) ?_; (with_reducible refine (halberdref03_Conditional.calls a0_0 false _ A35.out).mono ?_); rintro e w' ⟨rfl, ⟨nd, rfl⟩⟩; refine ⟨_, rfl, ?_⟩) | ((with_reducible refine gate_callee (f := 13) rfl ?_); refine goesL_ (some 142) rfl rfl Try.func13 (by kernel_rfl) rfl #[.int .u8 a0_0] rfl (by (try simp only [List.map_toArray, List.map_cons, List.map_nil]); first | done | rfl | (simp only [List.length_drop, List.length_take]; rfl)) ?_; (with_reducible refine (halberdref03_Size.calls kj10 a0_0 t146 _ A60.out).mono ?_); rintro e w' ⟨rfl, ⟨nd, rfl⟩⟩; refine ⟨_, rfl, ?_⟩))
                          go_ret
                          exact ⟨by first | rfl | (simp [errW_none, errW_some] <;> rfl) | (simp [*, errW_none, errW_some] <;> rfl), by repeat (first | (with_reducible first | exact HB.out | apply below_alloc | apply pw_below_drewN | apply below_drew1 | refine below_set ?_ GE144.out) | exact HB.out)⟩
                      · rw [if_neg c69] at H
                        have c69b0 : ((Int.tmod a0_0 8) == 2) = false := beq_eq_false_iff_ne.mpr c69
                        have c69b1 : ((Int.tmod a0_0 8) != 2) = true := bne_iff_ne.mpr c69
                        by_cases c73 : a0_1 ≤ 10
                        · rw [if_pos c73] at H
                          have c73b0 : decide (a0_1 ≤ 10) = true := decide_eq_true c73
                          clear c73
                          by_cases c74 : a0_2 ≤ 10
                          · rw [if_pos c74] at H
                            have c74b0 : decide (a0_2 ≤ 10) = true := decide_eq_true c74
                            clear c74
                            obtain rfl := Option.some.inj H
                            have hcz75_0 : wc.cell? ⟨gb144, 0, none⟩ = some (.int .u8 a0_0) := (blk_cell BK144.out 0).trans rfl
                            have hcz75_1 : wc.cell? ⟨gb144, 1, none⟩ = some (.int .u8 a0_1) := (blk_cell BK144.out 1).trans rfl
                            have hcz75_2 : wc.cell? ⟨gb144, 2, none⟩ = some (.int .u8 a0_2) := (blk_cell BK144.out 2).trans rfl
                            have hcz75_3 : wc.cell? ⟨gb144, 3, none⟩ = some (.int .i16 a0_3) := (blk_cell BK144.out 3).trans rfl
                            have hcz75_4 : wc.cell? ⟨gb144, 4, none⟩ = some (.int .i32 a0_4) := (blk_cell BK144.out 4).trans rfl
                            have hfz75_0 := blk_frozen BK144.out 0
                            have hfz75_1 := blk_frozen BK144.out 1
                            have hfz75_2 := blk_frozen BK144.out 2
                            have hfz75_3 := blk_frozen BK144.out 3
                            have hfz75_4 := blk_frozen BK144.out 4
                            go_wp2_with (first | ((with_reducible refine gate_callee (f := 20) rfl ?_); refine goesL_ (some 79) rfl rfl Try.func20 (by kernel_rfl) rfl #[.int .u8 a0_0] rfl (by (try simp only [List.map_toArray, List.map_cons, List.map_nil]); first | done | rfl | (simp only [List.length_drop, List.length_take]; rfl)) ?_; (with_reducible refine (halberdref03_Conditional.calls a0_0 false _ A35.out).mono ?_); rintro e w' ⟨rfl, ⟨nd, rfl⟩⟩; refine ⟨_, rfl, ?_⟩) | ((with_reducible refine gate_callee (f := 13) rfl ?_); refine goesL_ (some 142) rfl rfl Try.func13 (by kernel_rfl) rfl #[.int .u8 a0_0] rfl (by (try simp only [List.map_toArray, List.map_cons, List.map_nil]); first | done | rfl | (simp only [List.length_drop, List.length_take]; rfl)) ?_; (with_reducible refine (halberdref03_Size.calls kj10 a0_0 t146 _ A60.out).mono ?_); rintro e w' ⟨rfl, ⟨nd, rfl⟩⟩; refine ⟨_, rfl, ?_⟩))
                            go_ret
                            exact ⟨by first | rfl | (simp [errW_none, errW_some] <;> rfl) | (simp [*, errW_none, errW_some] <;> rfl), by repeat (first | (with_reducible first | exact HB.out | apply below_alloc | apply pw_below_drewN | apply below_drew1 | refine below_set ?_ GE144.out) | exact HB.out)⟩
                          · rw [if_neg c74] at H
                            have c74b0 : decide (a0_2 ≤ 10) = false := decide_eq_false c74
                            clear c74
                            obtain rfl := Option.some.inj H
                            have hcz76_0 : wc.cell? ⟨gb144, 0, none⟩ = some (.int .u8 a0_0) := (blk_cell BK144.out 0).trans rfl
                            have hcz76_1 : wc.cell? ⟨gb144, 1, none⟩ = some (.int .u8 a0_1) := (blk_cell BK144.out 1).trans rfl
                            have hcz76_2 : wc.cell? ⟨gb144, 2, none⟩ = some (.int .u8 a0_2) := (blk_cell BK144.out 2).trans rfl
                            have hcz76_3 : wc.cell? ⟨gb144, 3, none⟩ = some (.int .i16 a0_3) := (blk_cell BK144.out 3).trans rfl
                            have hcz76_4 : wc.cell? ⟨gb144, 4, none⟩ = some (.int .i32 a0_4) := (blk_cell BK144.out 4).trans rfl
                            have hfz76_0 := blk_frozen BK144.out 0
                            have hfz76_1 := blk_frozen BK144.out 1
                            have hfz76_2 := blk_frozen BK144.out 2
                            have hfz76_3 := blk_frozen BK144.out 3
                            have hfz76_4 := blk_frozen BK144.out 4
                            go_wp2_with (first | ((with_reducible refine gate_callee (f := 20) rfl ?_); refine goesL_ (some 79) rfl rfl Try.func20 (by kernel_rfl) rfl #[.int .u8 a0_0] rfl (by (try simp only [List.map_toArray, List.map_cons, List.map_nil]); first | done | rfl | (simp only [List.length_drop, List.length_take]; rfl)) ?_; (with_reducible refine (halberdref03_Conditional.calls a0_0 false _ A35.out).mono ?_); rintro e w' ⟨rfl, ⟨nd, rfl⟩⟩; refine ⟨_, rfl, ?_⟩) | ((with_reducible refine gate_callee (f := 13) rfl ?_); refine goesL_ (some 142) rfl rfl Try.func13 (by kernel_rfl) rfl #[.int .u8 a0_0] rfl (by (try simp only [List.map_toArray, List.map_cons, List.map_nil]); first | done | rfl | (simp only [List.length_drop, List.length_take]; rfl)) ?_; (with_reducible refine (halberdref03_Size.calls kj10 a0_0 t146 _ A60.out).mono ?_); rintro e w' ⟨rfl, ⟨nd, rfl⟩⟩; refine ⟨_, rfl, ?_⟩))
                            go_ret
                            exact ⟨by first | rfl | (simp [errW_none, errW_some] <;> rfl) | (simp [*, errW_none, errW_some] <;> rfl), by repeat (first | (with_reducible first | exact HB.out | apply below_alloc | apply pw_below_drewN | apply below_drew1 | refine below_set ?_ GE144.out) | exact HB.out)⟩
                        · rw [if_neg c73] at H
                          have c73b0 : decide (a0_1 ≤ 10) = false := decide_eq_false c73
                          clear c73
                          obtain rfl := Option.some.inj H
                          have hcz77_0 : wc.cell? ⟨gb144, 0, none⟩ = some (.int .u8 a0_0) := (blk_cell BK144.out 0).trans rfl
                          have hcz77_1 : wc.cell? ⟨gb144, 1, none⟩ = some (.int .u8 a0_1) := (blk_cell BK144.out 1).trans rfl
                          have hcz77_2 : wc.cell? ⟨gb144, 2, none⟩ = some (.int .u8 a0_2) := (blk_cell BK144.out 2).trans rfl
                          have hcz77_3 : wc.cell? ⟨gb144, 3, none⟩ = some (.int .i16 a0_3) := (blk_cell BK144.out 3).trans rfl
                          have hcz77_4 : wc.cell? ⟨gb144, 4, none⟩ = some (.int .i32 a0_4) := (blk_cell BK144.out 4).trans rfl
                          have hfz77_0 := blk_frozen BK144.out 0
                          have hfz77_1 := blk_frozen BK144.out 1
                          have hfz77_2 := blk_frozen BK144.out 2
                          have hfz77_3 := blk_frozen BK144.out 3
                          have hfz77_4 := blk_frozen BK144.out 4
                          go_wp2_with (first | ((with_reducible refine gate_callee (f := 20) rfl ?_); refine goesL_ (some 79) rfl rfl Try.func20 (by kernel_rfl) rfl #[.int .u8 a0_0] rfl (by (try simp only [List.map_toArray, List.map_cons, List.map_nil]); first | done | rfl | (simp only [List.length_drop, List.length_take]; rfl)) ?_; (with_reducible refine (halberdref03_Conditional.calls a0_0 false _ A35.out).mono ?_); rintro e w' ⟨rfl, ⟨nd, rfl⟩⟩; refine ⟨_, rfl, ?_⟩) | ((with_reducible refine gate_callee (f := 13) rfl ?_); refine goesL_ (some 142) rfl rfl Try.func13 (by kernel_rfl) rfl #[.int .u8 a0_0] rfl (by (try simp only [List.map_toArray, List.map_cons, List.map_nil]); first | done | rfl | (simp only [List.length_drop, List.length_take]; rfl)) ?_; (with_reducible refine (halberdref03_Size.calls kj10 a0_0 t146 _ A60.out).mono ?_); rintro e w' ⟨rfl, ⟨nd, rfl⟩⟩; refine ⟨_, rfl, ?_⟩))
                          go_ret
                          exact ⟨by first | rfl | (simp [errW_none, errW_some] <;> rfl) | (simp [*, errW_none, errW_some] <;> rfl), by repeat (first | (with_reducible first | exact HB.out | apply below_alloc | apply pw_below_drewN | apply below_drew1 | refine below_set ?_ GE144.out) | exact HB.out)⟩

end Go.Proofs.Ytkbngkhajkhfgaa.PIsaChecks
