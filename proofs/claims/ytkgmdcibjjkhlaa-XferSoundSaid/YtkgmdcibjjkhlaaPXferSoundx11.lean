/- Functions of the program that some laws reach, as Lean functions, and proofs that the program's calls come to what they say: written by a program, for the texts that import it; each theorem bears its own conditions. -/
import Derived.Test.YtkgmdcibjjkhlaaPXferSoundx0
import Derived.Test.YtkgmdcibjjkhlaaPXferSoundx6
import Derived.Test.YtkgmdcibjjkhlaaPXferSoundx9
import Derived.Test.YtkgmdcibjjkhlaaPXferSoundx10
namespace Go.Proofs.Ytkgmdcibjjkhlaa.PXferSound
open Go.RowKit Go.Proofs.YtkgmdcibjjkhlaaW.PrintWords Go.Proofs.YtkgmdcibjjkhlaaW.PrintLast Go.Proofs.YtkgmdcibjjkhlaaW.PrintMore
attribute [local go_sem] max2_int min2_int max_two min_two max_three min_three max_four min_four   -- for this text's walks alone
set_option linter.unusedVariables false
set_option linter.unusedSimpArgs false

/-! ### halberdlaw08_XferSound: function 4 -/
def halberdlaw08_XferSound.j0 : Nat → Int → Bool → Int → Int → Bool → Int → Int → Int → Int → Int → Int → Int → Int → Int → Int → Int → Int → Option (Bool)
 | 0, _, _, _, _, _, _, _, _, _, _, _, _, _, _, _, _, _ => none
 | k + 1, x0, x1, x4, x5, x28, x286000, x286001, x286002, x286003, x286004, x286005, x287000, x287001, x287002, x287003, x287004, x287005 => if x28 = true then (some true) else ((xfer_Do.f k x0 x1 x286000 x286001 x286002 x286003 x286004 x286005 x287000 x287001 x287002 x287003 x287004 x287005).bind fun bt290 => ((halberdref04_Do.f k x0 x1 x4 x5).bind fun bt298 => (if (bt290.2.2.2.2.2.2 == bt298.2) = true then (if bt290.2.2.2.2.2.2 = true then ((halberdref07_Has.f k bt290.1 bt290.2.1 bt290.2.2.1 bt290.2.2.2.1 bt290.2.2.2.2.1 bt290.2.2.2.2.2.1 bt298.1).bind fun t300 => (some t300)) else (some true)) else (some false))))
def halberdlaw08_XferSound.f (k : Nat) (a0 : Int) (a1 : Bool) (a2_0 : Int) (a2_1 : Int) (a2_2 : Int) (a2_3 : Int) (a2_4 : Int) (a2_5 : Int) (a3_0 : Int) (a3_1 : Int) (a3_2 : Int) (a3_3 : Int) (a3_4 : Int) (a3_5 : Int) (a4 : Int) (a5 : Int) : Option (Bool) := (halberdlaw08_alive.f k).bind fun t287 => (if t287 = true then ((halberdref07_Has.f k a2_0 a2_1 a2_2 a2_3 a2_4 a2_5 a4).bind fun t288 => (if t288 = true then ((halberdref07_Has.f k a3_0 a3_1 a3_2 a3_3 a3_4 a3_5 a5).bind fun t289 => (halberdlaw08_XferSound.j0 k a0 a1 a4 a5 (!t289) a2_0 a2_1 a2_2 a2_3 a2_4 a2_5 a3_0 a3_1 a3_2 a3_3 a3_4 a3_5)) else (halberdlaw08_XferSound.j0 k a0 a1 a4 a5 true a2_0 a2_1 a2_2 a2_3 a2_4 a2_5 a3_0 a3_1 a3_2 a3_3 a3_4 a3_5))) else (some false))
theorem halberdlaw08_XferSound.mono_l : ∀ k, (∀ y0 y1 y2 y3 y4 y5 y6 y7 y8 y9 y10 y11 y12 y13 y14 y15 y16, LeO (halberdlaw08_XferSound.j0 k y0 y1 y2 y3 y4 y5 y6 y7 y8 y9 y10 y11 y12 y13 y14 y15 y16) (halberdlaw08_XferSound.j0 (k + 1) y0 y1 y2 y3 y4 y5 y6 y7 y8 y9 y10 y11 y12 y13 y14 y15 y16))
 | 0 => fun _ _ _ _ _ _ _ _ _ _ _ _ _ _ _ _ _ r h => by simp [halberdlaw08_XferSound.j0] at h
 | k + 1 => by
  have ih0 := halberdlaw08_XferSound.mono_l k
  ·intro y0 y1 y2 y3 y4 y5 y6 y7 y8 y9 y10 y11 y12 y13 y14 y15 y16
   unfold halberdlaw08_XferSound.j0
   repeat' first
   | (with_reducible exact ih0 _ _ _ _ _ _ _ _ _ _ _ _ _ _ _ _ _)
   | (with_reducible exact halberdlaw08_alive.mono _)
   | (with_reducible exact halberdref04_Do.mono _ _ _ _ _)
   | (with_reducible exact halberdref07_Has.mono _ _ _ _ _ _ _ _)
   | (with_reducible exact xfer_Do.mono _ _ _ _ _ _ _ _ _ _ _ _ _ _ _)
   | (with_reducible exact LeO.refl _)
   | (with_reducible exact LeO.none _)
   | (with_reducible refine LeO.ite ?_ ?_)
   | (with_reducible refine LeO.bind ?_ (fun _ => ?_))
   | exact ih0 _ _ _ _ _ _ _ _ _ _ _ _ _ _ _ _ _
   | exact halberdlaw08_alive.mono _
   | exact halberdref04_Do.mono _ _ _ _ _
   | exact halberdref07_Has.mono _ _ _ _ _ _ _ _
   | exact xfer_Do.mono _ _ _ _ _ _ _ _ _ _ _ _ _ _ _
   | exact LeO.none _
   | refine LeO.ite ?_ ?_
   | refine LeO.bind ?_ (fun _ => ?_)
theorem halberdlaw08_XferSound.mono : ∀ a0 a1 a2 a3 a4 a5 a6 a7 a8 a9 a10 a11 a12 a13 a14 a15 k, LeO (halberdlaw08_XferSound.f k a0 a1 a2 a3 a4 a5 a6 a7 a8 a9 a10 a11 a12 a13 a14 a15) (halberdlaw08_XferSound.f (k + 1) a0 a1 a2 a3 a4 a5 a6 a7 a8 a9 a10 a11 a12 a13 a14 a15) := by
 intro a0 a1 a2 a3 a4 a5 a6 a7 a8 a9 a10 a11 a12 a13 a14 a15 k
 have ih0 := halberdlaw08_XferSound.mono_l k
 unfold halberdlaw08_XferSound.f
 repeat' first
   | (with_reducible exact ih0 _ _ _ _ _ _ _ _ _ _ _ _ _ _ _ _ _)
   | (with_reducible exact halberdlaw08_alive.mono _)
   | (with_reducible exact halberdref04_Do.mono _ _ _ _ _)
   | (with_reducible exact halberdref07_Has.mono _ _ _ _ _ _ _ _)
   | (with_reducible exact xfer_Do.mono _ _ _ _ _ _ _ _ _ _ _ _ _ _ _)
   | (with_reducible exact LeO.refl _)
   | (with_reducible exact LeO.none _)
   | (with_reducible refine LeO.ite ?_ ?_)
   | (with_reducible refine LeO.bind ?_ (fun _ => ?_))
   | exact ih0 _ _ _ _ _ _ _ _ _ _ _ _ _ _ _ _ _
   | exact halberdlaw08_alive.mono _
   | exact halberdref04_Do.mono _ _ _ _ _
   | exact halberdref07_Has.mono _ _ _ _ _ _ _ _
   | exact xfer_Do.mono _ _ _ _ _ _ _ _ _ _ _ _ _ _ _
   | exact LeO.none _
   | refine LeO.ite ?_ ?_
   | refine LeO.bind ?_ (fun _ => ?_)
set_option maxHeartbeats 8000000 in
set_option maxRecDepth 100000 in
theorem halberdlaw08_XferSound.calls (k : Nat) (a0 : Int) (a1 : Bool) (a2_0 : Int) (a2_1 : Int) (a2_2 : Int) (a2_3 : Int) (a2_4 : Int) (a2_5 : Int) (a3_0 : Int) (a3_1 : Int) (a3_2 : Int) (a3_3 : Int) (a3_4 : Int) (a3_5 : Int) (a4 : Int) (a5 : Int) (r : Bool) (w : World) (hr_ : Aside0 (r = true)) (h : halberdlaw08_XferSound.f k a0 a1 a2_0 a2_1 a2_2 a2_3 a2_4 a2_5 a3_0 a3_1 a3_2 a3_3 a3_4 a3_5 a4 a5 = some r) :
  Calls Try.prog 4 #[.int .u8 a0, .bool a1, .agg #[.int .u64 a2_0, .int .u64 a2_1, .int .u64 a2_2, .int .u64 a2_3, .int .i64 a2_4, .int .i64 a2_5], .agg #[.int .u64 a3_0, .int .u64 a3_1, .int .u64 a3_2, .int .u64 a3_3, .int .i64 a3_4, .int .i64 a3_5], .int .u64 a4, .int .u64 a5] w fun e w' => e = .returned (.bool r) ∧ Below w.heap.size w w' := by
 have hu26 := Try.underlying26
 have HB := Aside0.mk (Below.refl w.heap.size w)
 have H : ((halberdlaw08_alive.f k).bind fun t287 => (if t287 = true then ((halberdref07_Has.f k a2_0 a2_1 a2_2 a2_3 a2_4 a2_5 a4).bind fun t288 => (if t288 = true then ((halberdref07_Has.f k a3_0 a3_1 a3_2 a3_3 a3_4 a3_5 a5).bind fun t289 => (halberdlaw08_XferSound.j0 k a0 a1 a4 a5 (!t289) a2_0 a2_1 a2_2 a2_3 a2_4 a2_5 a3_0 a3_1 a3_2 a3_3 a3_4 a3_5)) else (halberdlaw08_XferSound.j0 k a0 a1 a4 a5 true a2_0 a2_1 a2_2 a2_3 a2_4 a2_5 a3_0 a3_1 a3_2 a3_3 a3_4 a3_5))) else (some false))) = some r := h
 clear h
 replace H := Option.bind_eq_some_iff.mp H
 obtain ⟨t287, A70, H⟩ := H
 replace H : (if t287 = true then ((halberdref07_Has.f k a2_0 a2_1 a2_2 a2_3 a2_4 a2_5 a4).bind fun t288 => (if t288 = true then ((halberdref07_Has.f k a3_0 a3_1 a3_2 a3_3 a3_4 a3_5 a5).bind fun t289 => (halberdlaw08_XferSound.j0 k a0 a1 a4 a5 (!t289) a2_0 a2_1 a2_2 a2_3 a2_4 a2_5 a3_0 a3_1 a3_2 a3_3 a3_4 a3_5)) else (halberdlaw08_XferSound.j0 k a0 a1 a4 a5 true a2_0 a2_1 a2_2 a2_3 a2_4 a2_5 a3_0 a3_1 a3_2 a3_3 a3_4 a3_5))) else (some false)) = some r := H
 have A7 := Aside0.mk A70
 clear A70
 by_cases c8 : t287 = true
 ·subst c8
  have H1 : ((halberdref07_Has.f k a2_0 a2_1 a2_2 a2_3 a2_4 a2_5 a4).bind fun t288 => (if t288 = true then ((halberdref07_Has.f k a3_0 a3_1 a3_2 a3_3 a3_4 a3_5 a5).bind fun t289 => (halberdlaw08_XferSound.j0 k a0 a1 a4 a5 (!t289) a2_0 a2_1 a2_2 a2_3 a2_4 a2_5 a3_0 a3_1 a3_2 a3_3 a3_4 a3_5)) else (halberdlaw08_XferSound.j0 k a0 a1 a4 a5 true a2_0 a2_1 a2_2 a2_3 a2_4 a2_5 a3_0 a3_1 a3_2 a3_3 a3_4 a3_5))) = some r := by rw [if_pos rfl] at H; exact H
  clear H
  have H := H1
  clear H1
  have HC9 := Aside0.mk H
  clear H
  go_enter Try.func4, Try.ntmps4
  go_upto_region 3 with (first | ((with_reducible refine gate_dst (N := 8) rfl ?_); refine box_event ?hg (N := 8) ?hd (cs := #[.int .u64 a2_0, .int .u64 a2_1, .int .u64 a2_2, .int .u64 a2_3, .int .i64 a2_4, .int .i64 a2_5]) (t := 26) ?hr ?_; (case hd => rfl); (case hg => rfl); (case hr => first | (go_simp; done) | (go_simp; rfl)); intro gb285 hg w10 hbox hb; have n0_ := Aside0.mk (below_step (by repeat (first | (with_reducible first | exact HB.out | apply below_alloc | apply pw_below_drewN | apply below_drew1) | exact HB.out)) hb); have n1_ := Aside0.mk (hbox); have n2_ := Aside0.mk ((by rw [hg]; exact (below_size (by repeat (first | (with_reducible first | exact HB.out | apply below_alloc | apply pw_below_drewN | apply below_drew1) | exact HB.out))) : w.heap.size ≤ gb285)); have n3_ := Aside0.mk ((by rw [hg]; exact (below_size (by repeat (first | (with_reducible first | exact HB.out | apply below_alloc | apply pw_below_drewN | apply below_drew1) | exact HB.out))) : w.heap.size ≤ gb285)); clear HB; have HB := n0_; have BK285 := n1_; have GW285 := n2_; have GE285 := n3_; clear n0_ n1_ n2_ n3_; clear hb hbox hg) | ((with_reducible refine gate_dst (N := 9) rfl ?_); refine box_event ?hg (N := 9) ?hd (cs := #[.int .u64 a3_0, .int .u64 a3_1, .int .u64 a3_2, .int .u64 a3_3, .int .i64 a3_4, .int .i64 a3_5]) (t := 26) ?hr ?_; (case hd => rfl); (case hg => rfl); (case hr => first | (go_simp; done) | (go_simp; rfl)); intro gb286 hg w11 hbox hb; have n0_ := Aside0.mk (blk_below (g := gb285) (o := .cells #[.int .u64 a2_0, .int .u64 a2_1, .int .u64 a2_2, .int .u64 a2_3, .int .i64 a2_4, .int .i64 a2_5] 26 (0, 0)) (by (with_reducible repeat (first | refine blk_drewN ?_ _ | refine blk_drew ?_ | refine blk_alloc ?_ _)); exact BK285.out) hb); have n1_ := Aside0.mk (below_step (by repeat (first | (with_reducible first | exact HB.out | apply below_alloc | apply pw_below_drewN | apply below_drew1 | refine below_set ?_ GE285.out) | exact HB.out)) hb); have n2_ := Aside0.mk (hbox); have n3_ := Aside0.mk ((by rw [hg]; exact (below_size (by repeat (first | (with_reducible first | exact HB.out | apply below_alloc | apply pw_below_drewN | apply below_drew1 | refine below_set ?_ GE285.out) | exact HB.out))) : w.heap.size ≤ gb286)); have n4_ := Aside0.mk ((by rw [hg]; exact (below_size (by repeat (first | (with_reducible first | exact HB.out | apply below_alloc | apply pw_below_drewN | apply below_drew1 | refine below_set ?_ GE285.out) | exact HB.out))) : w.heap.size ≤ gb286)); have n5_ := Aside0.mk ((by rw [hg]; exact Nat.ne_of_lt (blk_lt (g := gb285) (o := .cells #[.int .u64 a2_0, .int .u64 a2_1, .int .u64 a2_2, .int .u64 a2_3, .int .i64 a2_4, .int .i64 a2_5] 26 (0, 0)) (by (with_reducible repeat (first | refine blk_drewN ?_ _ | refine blk_drew ?_ | refine blk_alloc ?_ _)); exact BK285.out)) : gb285 ≠ gb286)); have n6_ := Aside0.mk ((by rw [hg]; exact Nat.ne_of_gt (blk_lt (g := gb285) (o := .cells #[.int .u64 a2_0, .int .u64 a2_1, .int .u64 a2_2, .int .u64 a2_3, .int .i64 a2_4, .int .i64 a2_5] 26 (0, 0)) (by (with_reducible repeat (first | refine blk_drewN ?_ _ | refine blk_drew ?_ | refine blk_alloc ?_ _)); exact BK285.out)) : gb286 ≠ gb285)); clear BK285; clear HB; have BK285 := n0_; have HB := n1_; have BK286 := n2_; have GW286 := n3_; have GE286 := n4_; have NB285_286 := n5_; have NB286_285 := n6_; clear n0_ n1_ n2_ n3_ n4_ n5_ n6_; clear hb hbox hg) | ((with_reducible refine gate_callee (f := 6) rfl ?_); refine goesL_ (some 17) rfl rfl Try.func6 (by kernel_rfl) rfl #[] rfl (by (try simp only [List.map_toArray, List.map_cons, List.map_nil]); first | done | rfl | (simp only [List.length_drop, List.length_take]; rfl)) ?_; (with_reducible refine (halberdlaw08_alive.calls k  true _ A7.out).mono ?_); rintro e w12 ⟨rfl, hb⟩; refine ⟨_, rfl, ?_⟩; have n0_ := Aside0.mk (blk_below (g := gb285) (o := .cells #[.int .u64 a2_0, .int .u64 a2_1, .int .u64 a2_2, .int .u64 a2_3, .int .i64 a2_4, .int .i64 a2_5] 26 (0, 0)) (by (with_reducible repeat (first | refine blk_drewN ?_ _ | refine blk_drew ?_ | refine blk_alloc ?_ _)); exact BK285.out) hb); have n1_ := Aside0.mk (blk_below (g := gb286) (o := .cells #[.int .u64 a3_0, .int .u64 a3_1, .int .u64 a3_2, .int .u64 a3_3, .int .i64 a3_4, .int .i64 a3_5] 26 (0, 0)) (by (with_reducible repeat (first | refine blk_drewN ?_ _ | refine blk_drew ?_ | refine blk_alloc ?_ _)); exact BK286.out) hb); have n2_ := Aside0.mk (below_step (by repeat (first | (with_reducible first | exact HB.out | apply below_alloc | apply pw_below_drewN | apply below_drew1 | refine below_set ?_ GE285.out | refine below_set ?_ GE286.out) | exact HB.out)) hb); clear BK285; clear BK286; clear HB; have BK285 := n0_; have BK286 := n1_; have HB := n2_; clear n0_ n1_ n2_; (try clear hb); (try clear hb2); (try clear hk); (try clear hi)))
  (try simp only [Act.put, List.setIfInBounds_toArray, List.set_cons_zero, List.set_cons_succ])
  go_cut [28] (fun v28 wc => ∃ (kq : Nat) (x28_8 : Bool), v28 = .bool x28_8 ∧ Aside0 (halberdlaw08_XferSound.j0 kq a0 a1 a4 a5 x28_8 a2_0 a2_1 a2_2 a2_3 a2_4 a2_5 a3_0 a3_1 a3_2 a3_3 a3_4 a3_5 = some r) ∧ Aside0 (kq ≤ k) ∧ Aside0 (wc.heap[gb285]? = some (.cells #[.int .u64 a2_0, .int .u64 a2_1, .int .u64 a2_2, .int .u64 a2_3, .int .i64 a2_4, .int .i64 a2_5] 26 (0, 0))) ∧ Aside0 (wc.heap[gb286]? = some (.cells #[.int .u64 a3_0, .int .u64 a3_1, .int .u64 a3_2, .int .u64 a3_3, .int .i64 a3_4, .int .i64 a3_5] 26 (0, 0))) ∧ Aside0 (Below w.heap.size w wc))
  case first =>
   have H := HC9.out
   clear HC9
   replace H := Option.bind_eq_some_iff.mp H
   obtain ⟨t288, A130, H⟩ := H
   replace H : (if t288 = true then ((halberdref07_Has.f k a3_0 a3_1 a3_2 a3_3 a3_4 a3_5 a5).bind fun t289 => (halberdlaw08_XferSound.j0 k a0 a1 a4 a5 (!t289) a2_0 a2_1 a2_2 a2_3 a2_4 a2_5 a3_0 a3_1 a3_2 a3_3 a3_4 a3_5)) else (halberdlaw08_XferSound.j0 k a0 a1 a4 a5 true a2_0 a2_1 a2_2 a2_3 a2_4 a2_5 a3_0 a3_1 a3_2 a3_3 a3_4 a3_5)) = some r := H
   have A13 := Aside0.mk A130
   clear A130
   by_cases c14 : t288 = true
   ·subst c14
    have H1 : ((halberdref07_Has.f k a3_0 a3_1 a3_2 a3_3 a3_4 a3_5 a5).bind fun t289 => (halberdlaw08_XferSound.j0 k a0 a1 a4 a5 (!t289) a2_0 a2_1 a2_2 a2_3 a2_4 a2_5 a3_0 a3_1 a3_2 a3_3 a3_4 a3_5)) = some r := by rw [if_pos rfl] at H; exact H
    clear H
    have H := H1
    clear H1
    replace H := Option.bind_eq_some_iff.mp H
    obtain ⟨t289, A150, H⟩ := H
    replace H : (halberdlaw08_XferSound.j0 k a0 a1 a4 a5 (!t289) a2_0 a2_1 a2_2 a2_3 a2_4 a2_5 a3_0 a3_1 a3_2 a3_3 a3_4 a3_5) = some r := H
    have A15 := Aside0.mk A150
    clear A150
    have H' := Aside0.mk H
    clear H
    have hnb16 := NB285_286.out
    have hnc16 := NB286_285.out
    have hcz17_0 : w12.cell? ⟨gb285, 0, none⟩ = some (.int .u64 a2_0) := (blk_cell BK285.out 0).trans rfl
    have hcz17_1 : w12.cell? ⟨gb285, 1, none⟩ = some (.int .u64 a2_1) := (blk_cell BK285.out 1).trans rfl
    have hcz17_2 : w12.cell? ⟨gb285, 2, none⟩ = some (.int .u64 a2_2) := (blk_cell BK285.out 2).trans rfl
    have hcz17_3 : w12.cell? ⟨gb285, 3, none⟩ = some (.int .u64 a2_3) := (blk_cell BK285.out 3).trans rfl
    have hcz17_4 : w12.cell? ⟨gb285, 4, none⟩ = some (.int .i64 a2_4) := (blk_cell BK285.out 4).trans rfl
    have hcz17_5 : w12.cell? ⟨gb285, 5, none⟩ = some (.int .i64 a2_5) := (blk_cell BK285.out 5).trans rfl
    have hfz17_0 := blk_frozen BK285.out 0
    have hfz17_1 := blk_frozen BK285.out 1
    have hfz17_2 := blk_frozen BK285.out 2
    have hfz17_3 := blk_frozen BK285.out 3
    have hfz17_4 := blk_frozen BK285.out 4
    have hfz17_5 := blk_frozen BK285.out 5
    go_wp2_with (first | ((with_reducible refine gate_callee (f := 9) rfl ?_); refine goesL_ (some 21) rfl rfl Try.func9 (by kernel_rfl) rfl #[.agg #[.int .u64 a2_0, .int .u64 a2_1, .int .u64 a2_2, .int .u64 a2_3, .int .i64 a2_4, .int .i64 a2_5], .int .u64 a4] rfl (by (try simp only [List.map_toArray, List.map_cons, List.map_nil]); first | done | rfl | (simp only [List.length_drop, List.length_take]; rfl)) ?_; (with_reducible refine (halberdref07_Has.calls k a2_0 a2_1 a2_2 a2_3 a2_4 a2_5 a4 true _ A13.out).mono ?_); rintro e w18 ⟨rfl, hb⟩; refine ⟨_, rfl, ?_⟩; have n0_ := Aside0.mk (blk_below (g := gb285) (o := .cells #[.int .u64 a2_0, .int .u64 a2_1, .int .u64 a2_2, .int .u64 a2_3, .int .i64 a2_4, .int .i64 a2_5] 26 (0, 0)) (by (with_reducible repeat (first | refine blk_drewN ?_ _ | refine blk_drew ?_ | refine blk_alloc ?_ _)); exact BK285.out) hb); have n1_ := Aside0.mk (blk_below (g := gb286) (o := .cells #[.int .u64 a3_0, .int .u64 a3_1, .int .u64 a3_2, .int .u64 a3_3, .int .i64 a3_4, .int .i64 a3_5] 26 (0, 0)) (by (with_reducible repeat (first | refine blk_drewN ?_ _ | refine blk_drew ?_ | refine blk_alloc ?_ _)); exact BK286.out) hb); have n2_ := Aside0.mk (below_step (by repeat (first | (with_reducible first | exact HB.out | apply below_alloc | apply pw_below_drewN | apply below_drew1 | refine below_set ?_ GE285.out | refine below_set ?_ GE286.out) | exact HB.out)) hb); clear BK285; clear BK286; clear HB; have BK285 := n0_; have BK286 := n1_; have HB := n2_; clear n0_ n1_ n2_; (try clear hb); (try clear hb2); (try clear hk); (try clear hi); have hcz19_0 : w18.cell? ⟨gb286, 0, none⟩ = some (.int .u64 a3_0) := (blk_cell BK286.out 0).trans rfl; have hcz19_1 : w18.cell? ⟨gb286, 1, none⟩ = some (.int .u64 a3_1) := (blk_cell BK286.out 1).trans rfl; have hcz19_2 : w18.cell? ⟨gb286, 2, none⟩ = some (.int .u64 a3_2) := (blk_cell BK286.out 2).trans rfl; have hcz19_3 : w18.cell? ⟨gb286, 3, none⟩ = some (.int .u64 a3_3) := (blk_cell BK286.out 3).trans rfl; have hcz19_4 : w18.cell? ⟨gb286, 4, none⟩ = some (.int .i64 a3_4) := (blk_cell BK286.out 4).trans rfl; have hcz19_5 : w18.cell? ⟨gb286, 5, none⟩ = some (.int .i64 a3_5) := (blk_cell BK286.out 5).trans rfl; have hfz19_0 := blk_frozen BK286.out 0; have hfz19_1 := blk_frozen BK286.out 1; have hfz19_2 := blk_frozen BK286.out 2; have hfz19_3 := blk_frozen BK286.out 3; have hfz19_4 := blk_frozen BK286.out 4; have hfz19_5 := blk_frozen BK286.out 5) | (go_at_call 9; (with_reducible refine (halberdref07_Has.calls k a3_0 a3_1 a3_2 a3_3 a3_4 a3_5 a5 t289 _ A15.out).mono ?_); rintro e w20 ⟨rfl, hb⟩; have n0_ := Aside0.mk (blk_below (g := gb285) (o := .cells #[.int .u64 a2_0, .int .u64 a2_1, .int .u64 a2_2, .int .u64 a2_3, .int .i64 a2_4, .int .i64 a2_5] 26 (0, 0)) (by (with_reducible repeat (first | refine blk_drewN ?_ _ | refine blk_drew ?_ | refine blk_alloc ?_ _)); exact BK285.out) hb); have n1_ := Aside0.mk (blk_below (g := gb286) (o := .cells #[.int .u64 a3_0, .int .u64 a3_1, .int .u64 a3_2, .int .u64 a3_3, .int .i64 a3_4, .int .i64 a3_5] 26 (0, 0)) (by (with_reducible repeat (first | refine blk_drewN ?_ _ | refine blk_drew ?_ | refine blk_alloc ?_ _)); exact BK286.out) hb); have n2_ := Aside0.mk (below_step (by repeat (first | (with_reducible first | exact HB.out | apply below_alloc | apply pw_below_drewN | apply below_drew1 | refine below_set ?_ GE285.out | refine below_set ?_ GE286.out) | exact HB.out)) hb); clear BK285; clear BK286; clear HB; have BK285 := n0_; have BK286 := n1_; have HB := n2_; clear n0_ n1_ n2_; (try clear hb); (try clear hb2); (try clear hk); (try clear hi)) | (go_at_call 9; (with_reducible refine (halberdref07_Has.calls k a2_0 a2_1 a2_2 a2_3 a2_4 a2_5 a4 true _ A13.out).mono ?_); rintro e w18 ⟨rfl, hb⟩; have n0_ := Aside0.mk (blk_below (g := gb285) (o := .cells #[.int .u64 a2_0, .int .u64 a2_1, .int .u64 a2_2, .int .u64 a2_3, .int .i64 a2_4, .int .i64 a2_5] 26 (0, 0)) (by (with_reducible repeat (first | refine blk_drewN ?_ _ | refine blk_drew ?_ | refine blk_alloc ?_ _)); exact BK285.out) hb); have n1_ := Aside0.mk (blk_below (g := gb286) (o := .cells #[.int .u64 a3_0, .int .u64 a3_1, .int .u64 a3_2, .int .u64 a3_3, .int .i64 a3_4, .int .i64 a3_5] 26 (0, 0)) (by (with_reducible repeat (first | refine blk_drewN ?_ _ | refine blk_drew ?_ | refine blk_alloc ?_ _)); exact BK286.out) hb); have n2_ := Aside0.mk (below_step (by repeat (first | (with_reducible first | exact HB.out | apply below_alloc | apply pw_below_drewN | apply below_drew1 | refine below_set ?_ GE285.out | refine below_set ?_ GE286.out) | exact HB.out)) hb); clear BK285; clear BK286; clear HB; have BK285 := n0_; have BK286 := n1_; have HB := n2_; clear n0_ n1_ n2_; (try clear hb); (try clear hb2); (try clear hk); (try clear hi); have hcz19_0 : w18.cell? ⟨gb286, 0, none⟩ = some (.int .u64 a3_0) := (blk_cell BK286.out 0).trans rfl; have hcz19_1 : w18.cell? ⟨gb286, 1, none⟩ = some (.int .u64 a3_1) := (blk_cell BK286.out 1).trans rfl; have hcz19_2 : w18.cell? ⟨gb286, 2, none⟩ = some (.int .u64 a3_2) := (blk_cell BK286.out 2).trans rfl; have hcz19_3 : w18.cell? ⟨gb286, 3, none⟩ = some (.int .u64 a3_3) := (blk_cell BK286.out 3).trans rfl; have hcz19_4 : w18.cell? ⟨gb286, 4, none⟩ = some (.int .i64 a3_4) := (blk_cell BK286.out 4).trans rfl; have hcz19_5 : w18.cell? ⟨gb286, 5, none⟩ = some (.int .i64 a3_5) := (blk_cell BK286.out 5).trans rfl; have hfz19_0 := blk_frozen BK286.out 0; have hfz19_1 := blk_frozen BK286.out 1; have hfz19_2 := blk_frozen BK286.out 2; have hfz19_3 := blk_frozen BK286.out 3; have hfz19_4 := blk_frozen BK286.out 4; have hfz19_5 := blk_frozen BK286.out 5))
    go_meet
    case rel => exact ⟨_, (!t289), (by first | rfl | (simp; done) | (simp [*]; done)), H', ⟨by first | omega | exact Nat.le_refl _⟩, ⟨by (with_reducible repeat (first | refine blk_drewN ?_ _ | refine blk_drew ?_ | refine blk_alloc ?_ _)); exact BK285.out⟩, ⟨by (with_reducible repeat (first | refine blk_drewN ?_ _ | refine blk_drew ?_ | refine blk_alloc ?_ _)); exact BK286.out⟩, ⟨by repeat (first | (with_reducible first | exact HB.out | apply below_alloc | apply pw_below_drewN | apply below_drew1 | refine below_set ?_ GE285.out | refine below_set ?_ GE286.out) | exact HB.out)⟩⟩
   ·replace c14 := Bool.eq_false_iff.mpr c14
    subst c14
    have H1 : (halberdlaw08_XferSound.j0 k a0 a1 a4 a5 true a2_0 a2_1 a2_2 a2_3 a2_4 a2_5 a3_0 a3_1 a3_2 a3_3 a3_4 a3_5) = some r := by rw [if_neg (show ¬ (false = true) by decide)] at H; exact H
    clear H
    have H := H1
    clear H1
    have H' := Aside0.mk H
    clear H
    have hnb21 := NB285_286.out
    have hnc21 := NB286_285.out
    have hcz22_0 : w12.cell? ⟨gb285, 0, none⟩ = some (.int .u64 a2_0) := (blk_cell BK285.out 0).trans rfl
    have hcz22_1 : w12.cell? ⟨gb285, 1, none⟩ = some (.int .u64 a2_1) := (blk_cell BK285.out 1).trans rfl
    have hcz22_2 : w12.cell? ⟨gb285, 2, none⟩ = some (.int .u64 a2_2) := (blk_cell BK285.out 2).trans rfl
    have hcz22_3 : w12.cell? ⟨gb285, 3, none⟩ = some (.int .u64 a2_3) := (blk_cell BK285.out 3).trans rfl
    have hcz22_4 : w12.cell? ⟨gb285, 4, none⟩ = some (.int .i64 a2_4) := (blk_cell BK285.out 4).trans rfl
    have hcz22_5 : w12.cell? ⟨gb285, 5, none⟩ = some (.int .i64 a2_5) := (blk_cell BK285.out 5).trans rfl
    have hfz22_0 := blk_frozen BK285.out 0
    have hfz22_1 := blk_frozen BK285.out 1
    have hfz22_2 := blk_frozen BK285.out 2
    have hfz22_3 := blk_frozen BK285.out 3
    have hfz22_4 := blk_frozen BK285.out 4
    have hfz22_5 := blk_frozen BK285.out 5
    go_wp2_with (first | ((with_reducible refine gate_callee (f := 9) rfl ?_); refine goesL_ (some 21) rfl rfl Try.func9 (by kernel_rfl) rfl #[.agg #[.int .u64 a2_0, .int .u64 a2_1, .int .u64 a2_2, .int .u64 a2_3, .int .i64 a2_4, .int .i64 a2_5], .int .u64 a4] rfl (by (try simp only [List.map_toArray, List.map_cons, List.map_nil]); first | done | rfl | (simp only [List.length_drop, List.length_take]; rfl)) ?_; (with_reducible refine (halberdref07_Has.calls k a2_0 a2_1 a2_2 a2_3 a2_4 a2_5 a4 false _ A13.out).mono ?_); rintro e w23 ⟨rfl, hb⟩; refine ⟨_, rfl, ?_⟩; have n0_ := Aside0.mk (blk_below (g := gb285) (o := .cells #[.int .u64 a2_0, .int .u64 a2_1, .int .u64 a2_2, .int .u64 a2_3, .int .i64 a2_4, .int .i64 a2_5] 26 (0, 0)) (by (with_reducible repeat (first | refine blk_drewN ?_ _ | refine blk_drew ?_ | refine blk_alloc ?_ _)); exact BK285.out) hb); have n1_ := Aside0.mk (blk_below (g := gb286) (o := .cells #[.int .u64 a3_0, .int .u64 a3_1, .int .u64 a3_2, .int .u64 a3_3, .int .i64 a3_4, .int .i64 a3_5] 26 (0, 0)) (by (with_reducible repeat (first | refine blk_drewN ?_ _ | refine blk_drew ?_ | refine blk_alloc ?_ _)); exact BK286.out) hb); have n2_ := Aside0.mk (below_step (by repeat (first | (with_reducible first | exact HB.out | apply below_alloc | apply pw_below_drewN | apply below_drew1 | refine below_set ?_ GE285.out | refine below_set ?_ GE286.out) | exact HB.out)) hb); clear BK285; clear BK286; clear HB; have BK285 := n0_; have BK286 := n1_; have HB := n2_; clear n0_ n1_ n2_; (try clear hb); (try clear hb2); (try clear hk); (try clear hi)) | (go_at_call 9; (with_reducible refine (halberdref07_Has.calls k a2_0 a2_1 a2_2 a2_3 a2_4 a2_5 a4 false _ A13.out).mono ?_); rintro e w23 ⟨rfl, hb⟩; have n0_ := Aside0.mk (blk_below (g := gb285) (o := .cells #[.int .u64 a2_0, .int .u64 a2_1, .int .u64 a2_2, .int .u64 a2_3, .int .i64 a2_4, .int .i64 a2_5] 26 (0, 0)) (by (with_reducible repeat (first | refine blk_drewN ?_ _ | refine blk_drew ?_ | refine blk_alloc ?_ _)); exact BK285.out) hb); have n1_ := Aside0.mk (blk_below (g := gb286) (o := .cells #[.int .u64 a3_0, .int .u64 a3_1, .int .u64 a3_2, .int .u64 a3_3, .int .i64 a3_4, .int .i64 a3_5] 26 (0, 0)) (by (with_reducible repeat (first | refine blk_drewN ?_ _ | refine blk_drew ?_ | refine blk_alloc ?_ _)); exact BK286.out) hb); have n2_ := Aside0.mk (below_step (by repeat (first | (with_reducible first | exact HB.out | apply below_alloc | apply pw_below_drewN | apply below_drew1 | refine below_set ?_ GE285.out | refine below_set ?_ GE286.out) | exact HB.out)) hb); clear BK285; clear BK286; clear HB; have BK285 := n0_; have BK286 := n1_; have HB := n2_; clear n0_ n1_ n2_; (try clear hb); (try clear hb2); (try clear hk); (try clear hi)))
    go_meet
    case rel => exact ⟨_, (true), (by first | rfl | (simp; done) | (simp [*]; done)), H', ⟨by first | omega | exact Nat.le_refl _⟩, ⟨by (with_reducible repeat (first | refine blk_drewN ?_ _ | refine blk_drew ?_ | refine blk_alloc ?_ _)); exact BK285.out⟩, ⟨by (with_reducible repeat (first | refine blk_drewN ?_ _ | refine blk_drew ?_ | refine blk_alloc ?_ _)); exact BK286.out⟩, ⟨by repeat (first | (with_reducible first | exact HB.out | apply below_alloc | apply pw_below_drewN | apply below_drew1 | refine below_set ?_ GE285.out | refine below_set ?_ GE286.out) | exact HB.out)⟩⟩
  case rest =>
   clear HC9
   try clear c1
   try clear c2
   try clear p2
   try clear c4
   try clear c6
   try clear c8
   try clear c9
   try clear c14
   try clear c16
   try clear c21
   try clear hcz17_0
   try clear hcz17_1
   try clear hcz17_2
   try clear hcz17_3
   try clear hcz17_4
   try clear hcz17_5
   try clear hcz19_0
   try clear hcz19_1
   try clear hcz19_2
   try clear hcz19_3
   try clear hcz19_4
   try clear hcz19_5
   try clear hcz22_0
   try clear hcz22_1
   try clear hcz22_2
   try clear hcz22_3
   try clear hcz22_4
   try clear hcz22_5
   try clear hfz17_0
   try clear hfz17_1
   try clear hfz17_2
   try clear hfz17_3
   try clear hfz17_4
   try clear hfz17_5
   try clear hfz19_0
   try clear hfz19_1
   try clear hfz19_2
   try clear hfz19_3
   try clear hfz19_4
   try clear hfz19_5
   try clear hfz22_0
   try clear hfz22_1
   try clear hfz22_2
   try clear hfz22_3
   try clear hfz22_4
   try clear hfz22_5
   obtain ⟨kq, x28_8, rfl, HA, HJ8, BK285, BK286, HB⟩ := hcut
   cases kq with
   | zero => exact absurd HA.out (by simp [halberdlaw08_XferSound.j0])
   | succ kj8 =>
    have H := HA.out
    clear HA
    simp only [halberdlaw08_XferSound.j0] at H
    by_cases c24 : x28_8 = true
    ·subst c24
     have H1 : (some true) = some r := by rw [if_pos rfl] at H; exact H
     clear H
     have H := H1
     clear H1
     obtain rfl := Option.some.inj H
     go_wp2
     go_ret
     exact ⟨by first | rfl | (simp [errW_none, errW_some] <;> rfl) | (simp [*, errW_none, errW_some] <;> rfl), by repeat (first | (with_reducible first | exact HB.out | apply below_alloc | apply pw_below_drewN | apply below_drew1 | refine below_set ?_ GE285.out | refine below_set ?_ GE286.out) | exact HB.out)⟩
    ·replace c24 := Bool.eq_false_iff.mpr c24
     subst c24
     have H1 : ((xfer_Do.f kj8 a0 a1 a2_0 a2_1 a2_2 a2_3 a2_4 a2_5 a3_0 a3_1 a3_2 a3_3 a3_4 a3_5).bind fun bt290 => ((halberdref04_Do.f kj8 a0 a1 a4 a5).bind fun bt298 => (if (bt290.2.2.2.2.2.2 == bt298.2) = true then (if bt290.2.2.2.2.2.2 = true then ((halberdref07_Has.f kj8 bt290.1 bt290.2.1 bt290.2.2.1 bt290.2.2.2.1 bt290.2.2.2.2.1 bt290.2.2.2.2.2.1 bt298.1).bind fun t300 => (some t300)) else (some true)) else (some false)))) = some r := by rw [if_neg (show ¬ (false = true) by decide)] at H; exact H
     clear H
     have H := H1
     clear H1
     replace H := Option.bind_eq_some_iff.mp H
     obtain ⟨⟨t290, t291, t292, t293, t294, t295, t296⟩, A250, H⟩ := H
     replace H : ((halberdref04_Do.f kj8 a0 a1 a4 a5).bind fun bt298 => (if (t296 == bt298.2) = true then (if t296 = true then ((halberdref07_Has.f kj8 t290 t291 t292 t293 t294 t295 bt298.1).bind fun t300 => (some t300)) else (some true)) else (some false))) = some r := H
     have A25 := Aside0.mk A250
     clear A250
     replace H := Option.bind_eq_some_iff.mp H
     obtain ⟨⟨t298, t299⟩, A260, H⟩ := H
     replace H : (if (t296 == t299) = true then (if t296 = true then ((halberdref07_Has.f kj8 t290 t291 t292 t293 t294 t295 t298).bind fun t300 => (some t300)) else (some true)) else (some false)) = some r := H
     have A26 := Aside0.mk A260
     clear A260
     by_cases c27 : (t296 == t299) = true
     ·rw [if_pos c27] at H
      have c27b0 : (t296 == t299) = true := c27
      (try (have c27b1 : decide (t296 = t299) = true := by simpa using c27))
      (try (have c27b2 : (t296 == t299) = true := by simpa using c27))
      clear c27
      by_cases c28 : t296 = true
      ·subst c28
       have H1 : ((halberdref07_Has.f kj8 t290 t291 t292 t293 t294 t295 t298).bind fun t300 => (some t300)) = some r := by rw [if_pos rfl] at H; exact H
       clear H
       have H := H1
       clear H1
       replace H := Option.bind_eq_some_iff.mp H
       obtain ⟨t300, A290, H⟩ := H
       replace H : (some t300) = some r := H
       have A29 := Aside0.mk A290
       clear A290
       obtain rfl := Option.some.inj H
       have hnb30 := NB285_286.out
       have hnc30 := NB286_285.out
       have hcz31_0 : wc.cell? ⟨gb285, 0, none⟩ = some (.int .u64 a2_0) := (blk_cell BK285.out 0).trans rfl
       have hcz31_1 : wc.cell? ⟨gb285, 1, none⟩ = some (.int .u64 a2_1) := (blk_cell BK285.out 1).trans rfl
       have hcz31_2 : wc.cell? ⟨gb285, 2, none⟩ = some (.int .u64 a2_2) := (blk_cell BK285.out 2).trans rfl
       have hcz31_3 : wc.cell? ⟨gb285, 3, none⟩ = some (.int .u64 a2_3) := (blk_cell BK285.out 3).trans rfl
       have hcz31_4 : wc.cell? ⟨gb285, 4, none⟩ = some (.int .i64 a2_4) := (blk_cell BK285.out 4).trans rfl
       have hcz31_5 : wc.cell? ⟨gb285, 5, none⟩ = some (.int .i64 a2_5) := (blk_cell BK285.out 5).trans rfl
       have hfz31_0 := blk_frozen BK285.out 0
       have hfz31_1 := blk_frozen BK285.out 1
       have hfz31_2 := blk_frozen BK285.out 2
       have hfz31_3 := blk_frozen BK285.out 3
       have hfz31_4 := blk_frozen BK285.out 4
       have hfz31_5 := blk_frozen BK285.out 5
       have hcz32_0 : wc.cell? ⟨gb286, 0, none⟩ = some (.int .u64 a3_0) := (blk_cell BK286.out 0).trans rfl
       have hcz32_1 : wc.cell? ⟨gb286, 1, none⟩ = some (.int .u64 a3_1) := (blk_cell BK286.out 1).trans rfl
       have hcz32_2 : wc.cell? ⟨gb286, 2, none⟩ = some (.int .u64 a3_2) := (blk_cell BK286.out 2).trans rfl
       have hcz32_3 : wc.cell? ⟨gb286, 3, none⟩ = some (.int .u64 a3_3) := (blk_cell BK286.out 3).trans rfl
       have hcz32_4 : wc.cell? ⟨gb286, 4, none⟩ = some (.int .i64 a3_4) := (blk_cell BK286.out 4).trans rfl
       have hcz32_5 : wc.cell? ⟨gb286, 5, none⟩ = some (.int .i64 a3_5) := (blk_cell BK286.out 5).trans rfl
       have hfz32_0 := blk_frozen BK286.out 0
       have hfz32_1 := blk_frozen BK286.out 1
       have hfz32_2 := blk_frozen BK286.out 2
       have hfz32_3 := blk_frozen BK286.out 3
       have hfz32_4 := blk_frozen BK286.out 4
       have hfz32_5 := blk_frozen BK286.out 5
       go_wp2_with (first | ((with_reducible refine gate_callee (f := 7) rfl ?_); refine goesL_ (some 34) rfl rfl Try.func7 (by kernel_rfl) rfl #[.int .u8 a0, .bool a1, .agg #[.int .u64 a2_0, .int .u64 a2_1, .int .u64 a2_2, .int .u64 a2_3, .int .i64 a2_4, .int .i64 a2_5], .agg #[.int .u64 a3_0, .int .u64 a3_1, .int .u64 a3_2, .int .u64 a3_3, .int .i64 a3_4, .int .i64 a3_5]] rfl (by (try simp only [List.map_toArray, List.map_cons, List.map_nil]); first | done | rfl | (simp only [List.length_drop, List.length_take]; rfl)) ?_; (with_reducible refine (xfer_Do.calls kj8 a0 a1 a2_0 a2_1 a2_2 a2_3 a2_4 a2_5 a3_0 a3_1 a3_2 a3_3 a3_4 a3_5 t290 t291 t292 t293 t294 t295 true _ A25.out).mono ?_); rintro e w33 ⟨rfl, hb⟩; refine ⟨_, rfl, ?_⟩; have n0_ := Aside0.mk (blk_below (g := gb285) (o := .cells #[.int .u64 a2_0, .int .u64 a2_1, .int .u64 a2_2, .int .u64 a2_3, .int .i64 a2_4, .int .i64 a2_5] 26 (0, 0)) (by (with_reducible repeat (first | refine blk_drewN ?_ _ | refine blk_drew ?_ | refine blk_alloc ?_ _)); exact BK285.out) hb); have n1_ := Aside0.mk (blk_below (g := gb286) (o := .cells #[.int .u64 a3_0, .int .u64 a3_1, .int .u64 a3_2, .int .u64 a3_3, .int .i64 a3_4, .int .i64 a3_5] 26 (0, 0)) (by (with_reducible repeat (first | refine blk_drewN ?_ _ | refine blk_drew ?_ | refine blk_alloc ?_ _)); exact BK286.out) hb); have n2_ := Aside0.mk (below_step (by repeat (first | (with_reducible first | exact HB.out | apply below_alloc | apply pw_below_drewN | apply below_drew1 | refine below_set ?_ GE285.out | refine below_set ?_ GE286.out) | exact HB.out)) hb); clear BK285; clear BK286; clear HB; have BK285 := n0_; have BK286 := n1_; have HB := n2_; clear n0_ n1_ n2_; (try clear hb); (try clear hb2); (try clear hk); (try clear hi)) | ((with_reducible refine gate_dst (N := 13) rfl ?_); refine box_event ?hg (N := 13) ?hd (cs := #[.int .u64 0, .int .u64 0, .int .u64 0, .int .u64 0, .int .i64 0, .int .i64 0]) (t := 26) ?hr ?_; (case hd => rfl); (case hg => rfl); (case hr => first | (go_simp; done) | (go_simp; rfl)); intro gb297 hg w34 hbox hb; have n0_ := Aside0.mk (blk_below (g := gb285) (o := .cells #[.int .u64 a2_0, .int .u64 a2_1, .int .u64 a2_2, .int .u64 a2_3, .int .i64 a2_4, .int .i64 a2_5] 26 (0, 0)) (by (with_reducible repeat (first | refine blk_drewN ?_ _ | refine blk_drew ?_ | refine blk_alloc ?_ _)); exact BK285.out) hb); have n1_ := Aside0.mk (blk_below (g := gb286) (o := .cells #[.int .u64 a3_0, .int .u64 a3_1, .int .u64 a3_2, .int .u64 a3_3, .int .i64 a3_4, .int .i64 a3_5] 26 (0, 0)) (by (with_reducible repeat (first | refine blk_drewN ?_ _ | refine blk_drew ?_ | refine blk_alloc ?_ _)); exact BK286.out) hb); have n2_ := Aside0.mk (below_step (by repeat (first | (with_reducible first | exact HB.out | apply below_alloc | apply pw_below_drewN | apply below_drew1 | refine below_set ?_ GE285.out | refine below_set ?_ GE286.out) | exact HB.out)) hb); have n3_ := Aside0.mk (hbox); have n4_ := Aside0.mk ((by rw [hg]; exact (below_size (by repeat (first | (with_reducible first | exact HB.out | apply below_alloc | apply pw_below_drewN | apply below_drew1 | refine below_set ?_ GE285.out | refine below_set ?_ GE286.out) | exact HB.out))) : w.heap.size ≤ gb297)); have n5_ := Aside0.mk ((by rw [hg]; exact (below_size (by repeat (first | (with_reducible first | exact HB.out | apply below_alloc | apply pw_below_drewN | apply below_drew1 | refine below_set ?_ GE285.out | refine below_set ?_ GE286.out) | exact HB.out))) : w.heap.size ≤ gb297)); have n6_ := Aside0.mk ((by rw [hg]; exact Nat.ne_of_lt (blk_lt (g := gb285) (o := .cells #[.int .u64 a2_0, .int .u64 a2_1, .int .u64 a2_2, .int .u64 a2_3, .int .i64 a2_4, .int .i64 a2_5] 26 (0, 0)) (by (with_reducible repeat (first | refine blk_drewN ?_ _ | refine blk_drew ?_ | refine blk_alloc ?_ _)); exact BK285.out)) : gb285 ≠ gb297)); have n7_ := Aside0.mk ((by rw [hg]; exact Nat.ne_of_gt (blk_lt (g := gb285) (o := .cells #[.int .u64 a2_0, .int .u64 a2_1, .int .u64 a2_2, .int .u64 a2_3, .int .i64 a2_4, .int .i64 a2_5] 26 (0, 0)) (by (with_reducible repeat (first | refine blk_drewN ?_ _ | refine blk_drew ?_ | refine blk_alloc ?_ _)); exact BK285.out)) : gb297 ≠ gb285)); have n8_ := Aside0.mk ((by rw [hg]; exact Nat.ne_of_lt (blk_lt (g := gb286) (o := .cells #[.int .u64 a3_0, .int .u64 a3_1, .int .u64 a3_2, .int .u64 a3_3, .int .i64 a3_4, .int .i64 a3_5] 26 (0, 0)) (by (with_reducible repeat (first | refine blk_drewN ?_ _ | refine blk_drew ?_ | refine blk_alloc ?_ _)); exact BK286.out)) : gb286 ≠ gb297)); have n9_ := Aside0.mk ((by rw [hg]; exact Nat.ne_of_gt (blk_lt (g := gb286) (o := .cells #[.int .u64 a3_0, .int .u64 a3_1, .int .u64 a3_2, .int .u64 a3_3, .int .i64 a3_4, .int .i64 a3_5] 26 (0, 0)) (by (with_reducible repeat (first | refine blk_drewN ?_ _ | refine blk_drew ?_ | refine blk_alloc ?_ _)); exact BK286.out)) : gb297 ≠ gb286)); clear BK285; clear BK286; clear HB; have BK285 := n0_; have BK286 := n1_; have HB := n2_; have BK297 := n3_; have GW297 := n4_; have GE297 := n5_; have NB285_297 := n6_; have NB297_285 := n7_; have NB286_297 := n8_; have NB297_286 := n9_; clear n0_ n1_ n2_ n3_ n4_ n5_ n6_ n7_ n8_ n9_; clear hb hbox hg; have hnb35 := NB297_285.out; have hnc35 := NB285_297.out; have hnb36 := NB297_286.out; have hnc36 := NB286_297.out; have hcz37_0 : w34.cell? ⟨gb297, 0, none⟩ = some (.int .u64 0) := (blk_cell BK297.out 0).trans rfl; have hcz37_1 : w34.cell? ⟨gb297, 1, none⟩ = some (.int .u64 0) := (blk_cell BK297.out 1).trans rfl; have hcz37_2 : w34.cell? ⟨gb297, 2, none⟩ = some (.int .u64 0) := (blk_cell BK297.out 2).trans rfl; have hcz37_3 : w34.cell? ⟨gb297, 3, none⟩ = some (.int .u64 0) := (blk_cell BK297.out 3).trans rfl; have hcz37_4 : w34.cell? ⟨gb297, 4, none⟩ = some (.int .i64 0) := (blk_cell BK297.out 4).trans rfl; have hcz37_5 : w34.cell? ⟨gb297, 5, none⟩ = some (.int .i64 0) := (blk_cell BK297.out 5).trans rfl; have hfz37_0 := blk_frozen BK297.out 0; have hfz37_1 := blk_frozen BK297.out 1; have hfz37_2 := blk_frozen BK297.out 2; have hfz37_3 := blk_frozen BK297.out 3; have hfz37_4 := blk_frozen BK297.out 4; have hfz37_5 := blk_frozen BK297.out 5) | ((with_reducible refine gate_callee (f := 10) rfl ?_); refine goesL_ (some 42) rfl rfl Try.func10 (by kernel_rfl) rfl #[.int .u8 a0, .bool a1, .int .u64 a4, .int .u64 a5] rfl (by (try simp only [List.map_toArray, List.map_cons, List.map_nil]); first | done | rfl | (simp only [List.length_drop, List.length_take]; rfl)) ?_; (with_reducible refine (halberdref04_Do.calls kj8 a0 a1 a4 a5 t298 t299 _ A26.out).mono ?_); rintro e w' ⟨rfl, ⟨nd, rfl⟩⟩; refine ⟨_, rfl, ?_⟩) | (go_at_call 9; (with_reducible refine (halberdref07_Has.calls kj8 t290 t291 t292 t293 t294 t295 t298 t300 _ A29.out).mono ?_); rintro e w38 ⟨rfl, hb⟩; have n0_ := Aside0.mk (blk_below (g := gb285) (o := .cells #[.int .u64 a2_0, .int .u64 a2_1, .int .u64 a2_2, .int .u64 a2_3, .int .i64 a2_4, .int .i64 a2_5] 26 (0, 0)) (by (with_reducible repeat (first | refine blk_drewN ?_ _ | refine blk_drew ?_ | refine blk_alloc ?_ _)); refine blk_far ?_ NB285_297.out _; (with_reducible repeat (first | refine blk_drewN ?_ _ | refine blk_drew ?_ | refine blk_alloc ?_ _)); refine blk_far ?_ NB285_297.out _; (with_reducible repeat (first | refine blk_drewN ?_ _ | refine blk_drew ?_ | refine blk_alloc ?_ _)); refine blk_far ?_ NB285_297.out _; (with_reducible repeat (first | refine blk_drewN ?_ _ | refine blk_drew ?_ | refine blk_alloc ?_ _)); refine blk_far ?_ NB285_297.out _; (with_reducible repeat (first | refine blk_drewN ?_ _ | refine blk_drew ?_ | refine blk_alloc ?_ _)); refine blk_far ?_ NB285_297.out _; (with_reducible repeat (first | refine blk_drewN ?_ _ | refine blk_drew ?_ | refine blk_alloc ?_ _)); refine blk_far ?_ NB285_297.out _; (with_reducible repeat (first | refine blk_drewN ?_ _ | refine blk_drew ?_ | refine blk_alloc ?_ _)); exact BK285.out) hb); have n1_ := Aside0.mk (blk_below (g := gb286) (o := .cells #[.int .u64 a3_0, .int .u64 a3_1, .int .u64 a3_2, .int .u64 a3_3, .int .i64 a3_4, .int .i64 a3_5] 26 (0, 0)) (by (with_reducible repeat (first | refine blk_drewN ?_ _ | refine blk_drew ?_ | refine blk_alloc ?_ _)); refine blk_far ?_ NB286_297.out _; (with_reducible repeat (first | refine blk_drewN ?_ _ | refine blk_drew ?_ | refine blk_alloc ?_ _)); refine blk_far ?_ NB286_297.out _; (with_reducible repeat (first | refine blk_drewN ?_ _ | refine blk_drew ?_ | refine blk_alloc ?_ _)); refine blk_far ?_ NB286_297.out _; (with_reducible repeat (first | refine blk_drewN ?_ _ | refine blk_drew ?_ | refine blk_alloc ?_ _)); refine blk_far ?_ NB286_297.out _; (with_reducible repeat (first | refine blk_drewN ?_ _ | refine blk_drew ?_ | refine blk_alloc ?_ _)); refine blk_far ?_ NB286_297.out _; (with_reducible repeat (first | refine blk_drewN ?_ _ | refine blk_drew ?_ | refine blk_alloc ?_ _)); refine blk_far ?_ NB286_297.out _; (with_reducible repeat (first | refine blk_drewN ?_ _ | refine blk_drew ?_ | refine blk_alloc ?_ _)); exact BK286.out) hb); have n2_ := Aside0.mk (blk_below (g := gb297) (o := .cells #[.int .u64 t290, .int .u64 t291, .int .u64 t292, .int .u64 t293, .int .i64 t294, .int .i64 t295] 26 (0, 0)) (by (with_reducible repeat (first | refine blk_drewN ?_ _ | refine blk_drew ?_ | refine blk_alloc ?_ _)); refine blk_put (cs := #[.int .u64 t290, .int .u64 t291, .int .u64 t292, .int .u64 t293, .int .i64 t294, .int .i64 0]) ?_ 5 _ rfl; (with_reducible repeat (first | refine blk_drewN ?_ _ | refine blk_drew ?_ | refine blk_alloc ?_ _)); refine blk_put (cs := #[.int .u64 t290, .int .u64 t291, .int .u64 t292, .int .u64 t293, .int .i64 0, .int .i64 0]) ?_ 4 _ rfl; (with_reducible repeat (first | refine blk_drewN ?_ _ | refine blk_drew ?_ | refine blk_alloc ?_ _)); refine blk_put (cs := #[.int .u64 t290, .int .u64 t291, .int .u64 t292, .int .u64 0, .int .i64 0, .int .i64 0]) ?_ 3 _ rfl; (with_reducible repeat (first | refine blk_drewN ?_ _ | refine blk_drew ?_ | refine blk_alloc ?_ _)); refine blk_put (cs := #[.int .u64 t290, .int .u64 t291, .int .u64 0, .int .u64 0, .int .i64 0, .int .i64 0]) ?_ 2 _ rfl; (with_reducible repeat (first | refine blk_drewN ?_ _ | refine blk_drew ?_ | refine blk_alloc ?_ _)); refine blk_put (cs := #[.int .u64 t290, .int .u64 0, .int .u64 0, .int .u64 0, .int .i64 0, .int .i64 0]) ?_ 1 _ rfl; (with_reducible repeat (first | refine blk_drewN ?_ _ | refine blk_drew ?_ | refine blk_alloc ?_ _)); refine blk_put (cs := #[.int .u64 0, .int .u64 0, .int .u64 0, .int .u64 0, .int .i64 0, .int .i64 0]) ?_ 0 _ rfl; (with_reducible repeat (first | refine blk_drewN ?_ _ | refine blk_drew ?_ | refine blk_alloc ?_ _)); exact BK297.out) hb); have n3_ := Aside0.mk (below_step (by repeat (first | (with_reducible first | exact HB.out | apply below_alloc | apply pw_below_drewN | apply below_drew1 | refine below_set ?_ GE285.out | refine below_set ?_ GE286.out | refine below_set ?_ GE297.out) | exact HB.out)) hb); clear BK285; clear BK286; clear BK297; clear HB; have BK285 := n0_; have BK286 := n1_; have BK297 := n2_; have HB := n3_; clear n0_ n1_ n2_ n3_; (try clear hb); (try clear hb2); (try clear hk); (try clear hi)) | (go_at_call 7; (with_reducible refine (xfer_Do.calls kj8 a0 a1 a2_0 a2_1 a2_2 a2_3 a2_4 a2_5 a3_0 a3_1 a3_2 a3_3 a3_4 a3_5 t290 t291 t292 t293 t294 t295 true _ A25.out).mono ?_); rintro e w33 ⟨rfl, hb⟩; have n0_ := Aside0.mk (blk_below (g := gb285) (o := .cells #[.int .u64 a2_0, .int .u64 a2_1, .int .u64 a2_2, .int .u64 a2_3, .int .i64 a2_4, .int .i64 a2_5] 26 (0, 0)) (by (with_reducible repeat (first | refine blk_drewN ?_ _ | refine blk_drew ?_ | refine blk_alloc ?_ _)); exact BK285.out) hb); have n1_ := Aside0.mk (blk_below (g := gb286) (o := .cells #[.int .u64 a3_0, .int .u64 a3_1, .int .u64 a3_2, .int .u64 a3_3, .int .i64 a3_4, .int .i64 a3_5] 26 (0, 0)) (by (with_reducible repeat (first | refine blk_drewN ?_ _ | refine blk_drew ?_ | refine blk_alloc ?_ _)); exact BK286.out) hb); have n2_ := Aside0.mk (below_step (by repeat (first | (with_reducible first | exact HB.out | apply below_alloc | apply pw_below_drewN | apply below_drew1 | refine below_set ?_ GE285.out | refine below_set ?_ GE286.out) | exact HB.out)) hb); clear BK285; clear BK286; clear HB; have BK285 := n0_; have BK286 := n1_; have HB := n2_; clear n0_ n1_ n2_; (try clear hb); (try clear hb2); (try clear hk); (try clear hi)) | (go_at_call 10; (with_reducible refine (halberdref04_Do.calls kj8 a0 a1 a4 a5 t298 t299 _ A26.out).mono ?_); rintro e w' ⟨rfl, ⟨nd, rfl⟩⟩; refine ⟨_, rfl, ?_⟩))
       go_ret
       exact ⟨by first | rfl | (simp [errW_none, errW_some] <;> rfl) | (simp [*, errW_none, errW_some] <;> rfl), by repeat (first | (with_reducible first | exact HB.out | apply below_alloc | apply pw_below_drewN | apply below_drew1 | refine below_set ?_ GE285.out | refine below_set ?_ GE286.out | refine below_set ?_ GE297.out) | exact HB.out)⟩
      ·replace c28 := Bool.eq_false_iff.mpr c28
       subst c28
       have H1 : (some true) = some r := by rw [if_neg (show ¬ (false = true) by decide)] at H; exact H
       clear H
       have H := H1
       clear H1
       obtain rfl := Option.some.inj H
       have hnb39 := NB285_286.out
       have hnc39 := NB286_285.out
       have hcz40_0 : wc.cell? ⟨gb285, 0, none⟩ = some (.int .u64 a2_0) := (blk_cell BK285.out 0).trans rfl
       have hcz40_1 : wc.cell? ⟨gb285, 1, none⟩ = some (.int .u64 a2_1) := (blk_cell BK285.out 1).trans rfl
       have hcz40_2 : wc.cell? ⟨gb285, 2, none⟩ = some (.int .u64 a2_2) := (blk_cell BK285.out 2).trans rfl
       have hcz40_3 : wc.cell? ⟨gb285, 3, none⟩ = some (.int .u64 a2_3) := (blk_cell BK285.out 3).trans rfl
       have hcz40_4 : wc.cell? ⟨gb285, 4, none⟩ = some (.int .i64 a2_4) := (blk_cell BK285.out 4).trans rfl
       have hcz40_5 : wc.cell? ⟨gb285, 5, none⟩ = some (.int .i64 a2_5) := (blk_cell BK285.out 5).trans rfl
       have hfz40_0 := blk_frozen BK285.out 0
       have hfz40_1 := blk_frozen BK285.out 1
       have hfz40_2 := blk_frozen BK285.out 2
       have hfz40_3 := blk_frozen BK285.out 3
       have hfz40_4 := blk_frozen BK285.out 4
       have hfz40_5 := blk_frozen BK285.out 5
       have hcz41_0 : wc.cell? ⟨gb286, 0, none⟩ = some (.int .u64 a3_0) := (blk_cell BK286.out 0).trans rfl
       have hcz41_1 : wc.cell? ⟨gb286, 1, none⟩ = some (.int .u64 a3_1) := (blk_cell BK286.out 1).trans rfl
       have hcz41_2 : wc.cell? ⟨gb286, 2, none⟩ = some (.int .u64 a3_2) := (blk_cell BK286.out 2).trans rfl
       have hcz41_3 : wc.cell? ⟨gb286, 3, none⟩ = some (.int .u64 a3_3) := (blk_cell BK286.out 3).trans rfl
       have hcz41_4 : wc.cell? ⟨gb286, 4, none⟩ = some (.int .i64 a3_4) := (blk_cell BK286.out 4).trans rfl
       have hcz41_5 : wc.cell? ⟨gb286, 5, none⟩ = some (.int .i64 a3_5) := (blk_cell BK286.out 5).trans rfl
       have hfz41_0 := blk_frozen BK286.out 0
       have hfz41_1 := blk_frozen BK286.out 1
       have hfz41_2 := blk_frozen BK286.out 2
       have hfz41_3 := blk_frozen BK286.out 3
       have hfz41_4 := blk_frozen BK286.out 4
       have hfz41_5 := blk_frozen BK286.out 5
       go_wp2_with (first | ((with_reducible refine gate_callee (f := 7) rfl ?_); refine goesL_ (some 34) rfl rfl Try.func7 (by kernel_rfl) rfl #[.int .u8 a0, .bool a1, .agg #[.int .u64 a2_0, .int .u64 a2_1, .int .u64 a2_2, .int .u64 a2_3, .int .i64 a2_4, .int .i64 a2_5], .agg #[.int .u64 a3_0, .int .u64 a3_1, .int .u64 a3_2, .int .u64 a3_3, .int .i64 a3_4, .int .i64 a3_5]] rfl (by (try simp only [List.map_toArray, List.map_cons, List.map_nil]); first | done | rfl | (simp only [List.length_drop, List.length_take]; rfl)) ?_; (with_reducible refine (xfer_Do.calls kj8 a0 a1 a2_0 a2_1 a2_2 a2_3 a2_4 a2_5 a3_0 a3_1 a3_2 a3_3 a3_4 a3_5 t290 t291 t292 t293 t294 t295 false _ A25.out).mono ?_); rintro e w42 ⟨rfl, hb⟩; refine ⟨_, rfl, ?_⟩; have n0_ := Aside0.mk (blk_below (g := gb285) (o := .cells #[.int .u64 a2_0, .int .u64 a2_1, .int .u64 a2_2, .int .u64 a2_3, .int .i64 a2_4, .int .i64 a2_5] 26 (0, 0)) (by (with_reducible repeat (first | refine blk_drewN ?_ _ | refine blk_drew ?_ | refine blk_alloc ?_ _)); exact BK285.out) hb); have n1_ := Aside0.mk (blk_below (g := gb286) (o := .cells #[.int .u64 a3_0, .int .u64 a3_1, .int .u64 a3_2, .int .u64 a3_3, .int .i64 a3_4, .int .i64 a3_5] 26 (0, 0)) (by (with_reducible repeat (first | refine blk_drewN ?_ _ | refine blk_drew ?_ | refine blk_alloc ?_ _)); exact BK286.out) hb); have n2_ := Aside0.mk (below_step (by repeat (first | (with_reducible first | exact HB.out | apply below_alloc | apply pw_below_drewN | apply below_drew1 | refine below_set ?_ GE285.out | refine below_set ?_ GE286.out) | exact HB.out)) hb); clear BK285; clear BK286; clear HB; have BK285 := n0_; have BK286 := n1_; have HB := n2_; clear n0_ n1_ n2_; (try clear hb); (try clear hb2); (try clear hk); (try clear hi)) | ((with_reducible refine gate_dst (N := 13) rfl ?_); refine box_event ?hg (N := 13) ?hd (cs := #[.int .u64 0, .int .u64 0, .int .u64 0, .int .u64 0, .int .i64 0, .int .i64 0]) (t := 26) ?hr ?_; (case hd => rfl); (case hg => rfl); (case hr => first | (go_simp; done) | (go_simp; rfl)); intro gb297 hg w43 hbox hb; have n0_ := Aside0.mk (blk_below (g := gb285) (o := .cells #[.int .u64 a2_0, .int .u64 a2_1, .int .u64 a2_2, .int .u64 a2_3, .int .i64 a2_4, .int .i64 a2_5] 26 (0, 0)) (by (with_reducible repeat (first | refine blk_drewN ?_ _ | refine blk_drew ?_ | refine blk_alloc ?_ _)); exact BK285.out) hb); have n1_ := Aside0.mk (blk_below (g := gb286) (o := .cells #[.int .u64 a3_0, .int .u64 a3_1, .int .u64 a3_2, .int .u64 a3_3, .int .i64 a3_4, .int .i64 a3_5] 26 (0, 0)) (by (with_reducible repeat (first | refine blk_drewN ?_ _ | refine blk_drew ?_ | refine blk_alloc ?_ _)); exact BK286.out) hb); have n2_ := Aside0.mk (below_step (by repeat (first | (with_reducible first | exact HB.out | apply below_alloc | apply pw_below_drewN | apply below_drew1 | refine below_set ?_ GE285.out | refine below_set ?_ GE286.out) | exact HB.out)) hb); have n3_ := Aside0.mk (hbox); have n4_ := Aside0.mk ((by rw [hg]; exact (below_size (by repeat (first | (with_reducible first | exact HB.out | apply below_alloc | apply pw_below_drewN | apply below_drew1 | refine below_set ?_ GE285.out | refine below_set ?_ GE286.out) | exact HB.out))) : w.heap.size ≤ gb297)); have n5_ := Aside0.mk ((by rw [hg]; exact (below_size (by repeat (first | (with_reducible first | exact HB.out | apply below_alloc | apply pw_below_drewN | apply below_drew1 | refine below_set ?_ GE285.out | refine below_set ?_ GE286.out) | exact HB.out))) : w.heap.size ≤ gb297)); have n6_ := Aside0.mk ((by rw [hg]; exact Nat.ne_of_lt (blk_lt (g := gb285) (o := .cells #[.int .u64 a2_0, .int .u64 a2_1, .int .u64 a2_2, .int .u64 a2_3, .int .i64 a2_4, .int .i64 a2_5] 26 (0, 0)) (by (with_reducible repeat (first | refine blk_drewN ?_ _ | refine blk_drew ?_ | refine blk_alloc ?_ _)); exact BK285.out)) : gb285 ≠ gb297)); have n7_ := Aside0.mk ((by rw [hg]; exact Nat.ne_of_gt (blk_lt (g := gb285) (o := .cells #[.int .u64 a2_0, .int .u64 a2_1, .int .u64 a2_2, .int .u64 a2_3, .int .i64 a2_4, .int .i64 a2_5] 26 (0, 0)) (by (with_reducible repeat (first | refine blk_drewN ?_ _ | refine blk_drew ?_ | refine blk_alloc ?_ _)); exact BK285.out)) : gb297 ≠ gb285)); have n8_ := Aside0.mk ((by rw [hg]; exact Nat.ne_of_lt (blk_lt (g := gb286) (o := .cells #[.int .u64 a3_0, .int .u64 a3_1, .int .u64 a3_2, .int .u64 a3_3, .int .i64 a3_4, .int .i64 a3_5] 26 (0, 0)) (by (with_reducible repeat (first | refine blk_drewN ?_ _ | refine blk_drew ?_ | refine blk_alloc ?_ _)); exact BK286.out)) : gb286 ≠ gb297)); have n9_ := Aside0.mk ((by rw [hg]; exact Nat.ne_of_gt (blk_lt (g := gb286) (o := .cells #[.int .u64 a3_0, .int .u64 a3_1, .int .u64 a3_2, .int .u64 a3_3, .int .i64 a3_4, .int .i64 a3_5] 26 (0, 0)) (by (with_reducible repeat (first | refine blk_drewN ?_ _ | refine blk_drew ?_ | refine blk_alloc ?_ _)); exact BK286.out)) : gb297 ≠ gb286)); clear BK285; clear BK286; clear HB; have BK285 := n0_; have BK286 := n1_; have HB := n2_; have BK297 := n3_; have GW297 := n4_; have GE297 := n5_; have NB285_297 := n6_; have NB297_285 := n7_; have NB286_297 := n8_; have NB297_286 := n9_; clear n0_ n1_ n2_ n3_ n4_ n5_ n6_ n7_ n8_ n9_; clear hb hbox hg; have hnb44 := NB297_285.out; have hnc44 := NB285_297.out; have hnb45 := NB297_286.out; have hnc45 := NB286_297.out; have hcz46_0 : w43.cell? ⟨gb297, 0, none⟩ = some (.int .u64 0) := (blk_cell BK297.out 0).trans rfl; have hcz46_1 : w43.cell? ⟨gb297, 1, none⟩ = some (.int .u64 0) := (blk_cell BK297.out 1).trans rfl; have hcz46_2 : w43.cell? ⟨gb297, 2, none⟩ = some (.int .u64 0) := (blk_cell BK297.out 2).trans rfl; have hcz46_3 : w43.cell? ⟨gb297, 3, none⟩ = some (.int .u64 0) := (blk_cell BK297.out 3).trans rfl; have hcz46_4 : w43.cell? ⟨gb297, 4, none⟩ = some (.int .i64 0) := (blk_cell BK297.out 4).trans rfl; have hcz46_5 : w43.cell? ⟨gb297, 5, none⟩ = some (.int .i64 0) := (blk_cell BK297.out 5).trans rfl; have hfz46_0 := blk_frozen BK297.out 0; have hfz46_1 := blk_frozen BK297.out 1; have hfz46_2 := blk_frozen BK297.out 2; have hfz46_3 := blk_frozen BK297.out 3; have hfz46_4 := blk_frozen BK297.out 4; have hfz46_5 := blk_frozen BK297.out 5) | ((with_reducible refine gate_callee (f := 10) rfl ?_); refine goesL_ (some 42) rfl rfl Try.func10 (by kernel_rfl) rfl #[.int .u8 a0, .bool a1, .int .u64 a4, .int .u64 a5] rfl (by (try simp only [List.map_toArray, List.map_cons, List.map_nil]); first | done | rfl | (simp only [List.length_drop, List.length_take]; rfl)) ?_; (with_reducible refine (halberdref04_Do.calls kj8 a0 a1 a4 a5 t298 t299 _ A26.out).mono ?_); rintro e w' ⟨rfl, ⟨nd, rfl⟩⟩; refine ⟨_, rfl, ?_⟩) | (go_at_call 7; (with_reducible refine (xfer_Do.calls kj8 a0 a1 a2_0 a2_1 a2_2 a2_3 a2_4 a2_5 a3_0 a3_1 a3_2 a3_3 a3_4 a3_5 t290 t291 t292 t293 t294 t295 false _ A25.out).mono ?_); rintro e w42 ⟨rfl, hb⟩; have n0_ := Aside0.mk (blk_below (g := gb285) (o := .cells #[.int .u64 a2_0, .int .u64 a2_1, .int .u64 a2_2, .int .u64 a2_3, .int .i64 a2_4, .int .i64 a2_5] 26 (0, 0)) (by (with_reducible repeat (first | refine blk_drewN ?_ _ | refine blk_drew ?_ | refine blk_alloc ?_ _)); exact BK285.out) hb); have n1_ := Aside0.mk (blk_below (g := gb286) (o := .cells #[.int .u64 a3_0, .int .u64 a3_1, .int .u64 a3_2, .int .u64 a3_3, .int .i64 a3_4, .int .i64 a3_5] 26 (0, 0)) (by (with_reducible repeat (first | refine blk_drewN ?_ _ | refine blk_drew ?_ | refine blk_alloc ?_ _)); exact BK286.out) hb); have n2_ := Aside0.mk (below_step (by repeat (first | (with_reducible first | exact HB.out | apply below_alloc | apply pw_below_drewN | apply below_drew1 | refine below_set ?_ GE285.out | refine below_set ?_ GE286.out) | exact HB.out)) hb); clear BK285; clear BK286; clear HB; have BK285 := n0_; have BK286 := n1_; have HB := n2_; clear n0_ n1_ n2_; (try clear hb); (try clear hb2); (try clear hk); (try clear hi)) | (go_at_call 10; (with_reducible refine (halberdref04_Do.calls kj8 a0 a1 a4 a5 t298 t299 _ A26.out).mono ?_); rintro e w' ⟨rfl, ⟨nd, rfl⟩⟩; refine ⟨_, rfl, ?_⟩))
       go_ret
       exact ⟨by first | rfl | (simp [errW_none, errW_some] <;> rfl) | (simp [*, errW_none, errW_some] <;> rfl), by repeat (first | (with_reducible first | exact HB.out | apply below_alloc | apply pw_below_drewN | apply below_drew1 | refine below_set ?_ GE285.out | refine below_set ?_ GE286.out | refine below_set ?_ GE297.out) | exact HB.out)⟩
     ·rw [if_neg c27] at H
      have c27b0 : (t296 == t299) = false := by simpa using c27
      (try (have c27b1 : decide (t296 = t299) = false := by simpa using c27))
      (try (have c27b2 : (t296 == t299) = false := by simpa using c27))
      (try (have c27b3 : ¬ (t296 = t299) := by simpa using c27))
      clear c27
      exact absurd (Option.some.inj H) (by rw [hr_.out]; decide)
 ·replace c8 := Bool.eq_false_iff.mpr c8
  subst c8
  have H1 : (some false) = some r := by rw [if_neg (show ¬ (false = true) by decide)] at H; exact H
  clear H
  have H := H1
  clear H1
  exact absurd (Option.some.inj H) (by rw [hr_.out]; decide)

/-- THE ONE PURE STATEMENT of halberdlaw08_XferSound. -/
def halberdlaw08_XferSound.Pure : Prop := ∀ (a0 : Int) (a1 : Bool) (a2_0 : Int) (a2_1 : Int) (a2_2 : Int) (a2_3 : Int) (a2_4 : Int) (a2_5 : Int) (a3_0 : Int) (a3_1 : Int) (a3_2 : Int) (a3_3 : Int) (a3_4 : Int) (a3_5 : Int) (a4 : Int) (a5 : Int), ((Lit.int .u8 a0).wf = true) → ((((Lit.int .u64 a2_0).wf = true) ∧ ((Lit.int .u64 a2_1).wf = true)) ∧ ((Lit.int .u64 a2_2).wf = true) ∧ ((Lit.int .u64 a2_3).wf = true) ∧ ((Lit.int .i64 a2_4).wf = true) ∧ ((Lit.int .i64 a2_5).wf = true)) → ((((Lit.int .u64 a3_0).wf = true) ∧ ((Lit.int .u64 a3_1).wf = true)) ∧ ((Lit.int .u64 a3_2).wf = true) ∧ ((Lit.int .u64 a3_3).wf = true) ∧ ((Lit.int .i64 a3_4).wf = true) ∧ ((Lit.int .i64 a3_5).wf = true)) → ((Lit.int .u64 a4).wf = true) → ((Lit.int .u64 a5).wf = true) → ∃ k, halberdlaw08_XferSound.f k a0 a1 a2_0 a2_1 a2_2 a2_3 a2_4 a2_5 a3_0 a3_1 a3_2 a3_3 a3_4 a3_5 a4 a5 = some true

end Go.Proofs.Ytkgmdcibjjkhlaa.PXferSound
