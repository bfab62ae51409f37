/- Functions of the program that some laws reach, as Lean functions, and proofs that the program's calls come to what they say: written by a program, for the texts that import it; each theorem bears its own conditions. -/
import Derived.Test.YtdojdjafleaedaaPNarrowSoundx0
import Derived.Test.YtdojdjafleaedaaPNarrowSoundx1
import Derived.Test.YtdojdjafleaedaaPNarrowSoundx2
import Derived.Test.YtdojdjafleaedaaPNarrowSoundx8
import Derived.Test.YtdojdjafleaedaaPNarrowSoundx9
import Derived.Test.YtdojdjafleaedaaPNarrowSoundx10
namespace Go.Proofs.Ytdojdjafleaedaa.PNarrowSound
open Go.RowKit Go.Proofs.YtdojdjafleaedaaW.PrintWords Go.Proofs.YtdojdjafleaedaaW.PrintLast Go.Proofs.YtdojdjafleaedaaW.PrintMore
attribute [local go_sem] max2_int min2_int max_two min_two max_three min_three max_four min_four   -- for this text's walks alone
set_option linter.unusedVariables false
set_option linter.unusedSimpArgs false

/-! ### halberdlaw09_NarrowSound: function 12 -/
def halberdlaw09_NarrowSound.j0 : Nat → Int → Bool → Int → Int → Bool → Bool → Int → Int → Int → Int → Int → Int → Int → Int → Int → Int → Int → Int → Option (Bool)
 | 0, _, _, _, _, _, _, _, _, _, _, _, _, _, _, _, _, _, _ => none
 | k + 1, x0, x1, x4, x5, x13, x41, x151000, x151001, x151002, x151003, x151004, x151005, x152000, x152001, x152002, x152003, x152004, x152005 => if x41 = true then (some true) else ((narrow_Way.f k x0 x1 x151000 x151001 x151002 x151003 x151004 x151005 x152000 x152001 x152002 x152003 x152004 x152005 x13).bind fun bt157 => (if bt157.2.2.2.2.2.2.2.2.2.2.2.2 = true then ((halberdref07_Has.f k bt157.1 bt157.2.1 bt157.2.2.1 bt157.2.2.2.1 bt157.2.2.2.2.1 bt157.2.2.2.2.2.1 x4).bind fun t172 => (if t172 = true then ((halberdref07_Has.f k bt157.2.2.2.2.2.2.1 bt157.2.2.2.2.2.2.2.1 bt157.2.2.2.2.2.2.2.2.1 bt157.2.2.2.2.2.2.2.2.2.1 bt157.2.2.2.2.2.2.2.2.2.2.1 bt157.2.2.2.2.2.2.2.2.2.2.2.1 x5).bind fun t173 => (some t173)) else (some false))) else (some false)))
def halberdlaw09_NarrowSound.f (k : Nat) (a0 : Int) (a1 : Bool) (a2_0 : Int) (a2_1 : Int) (a2_2 : Int) (a2_3 : Int) (a2_4 : Int) (a2_5 : Int) (a3_0 : Int) (a3_1 : Int) (a3_2 : Int) (a3_3 : Int) (a3_4 : Int) (a3_5 : Int) (a4 : Int) (a5 : Int) : Option (Bool) := (halberdlaw09_alive.f k).bind fun t152 => (if t152 = true then ((halberdref04_Holds.f k a0 a1 a4 a5).bind fun bt153 => (if bt153.2 = true then ((halberdref07_Has.f k a2_0 a2_1 a2_2 a2_3 a2_4 a2_5 a4).bind fun t155 => (if t155 = true then ((halberdref07_Has.f k a3_0 a3_1 a3_2 a3_3 a3_4 a3_5 a5).bind fun t156 => (halberdlaw09_NarrowSound.j0 k a0 a1 a4 a5 bt153.1 (!t156) a2_0 a2_1 a2_2 a2_3 a2_4 a2_5 a3_0 a3_1 a3_2 a3_3 a3_4 a3_5)) else (halberdlaw09_NarrowSound.j0 k a0 a1 a4 a5 bt153.1 true a2_0 a2_1 a2_2 a2_3 a2_4 a2_5 a3_0 a3_1 a3_2 a3_3 a3_4 a3_5))) else (halberdlaw09_NarrowSound.j0 k a0 a1 a4 a5 bt153.1 true a2_0 a2_1 a2_2 a2_3 a2_4 a2_5 a3_0 a3_1 a3_2 a3_3 a3_4 a3_5))) else (some false))
theorem halberdlaw09_NarrowSound.mono_l : ∀ k, (∀ y0 y1 y2 y3 y4 y5 y6 y7 y8 y9 y10 y11 y12 y13 y14 y15 y16 y17, LeO (halberdlaw09_NarrowSound.j0 k y0 y1 y2 y3 y4 y5 y6 y7 y8 y9 y10 y11 y12 y13 y14 y15 y16 y17) (halberdlaw09_NarrowSound.j0 (k + 1) y0 y1 y2 y3 y4 y5 y6 y7 y8 y9 y10 y11 y12 y13 y14 y15 y16 y17))
 | 0 => fun _ _ _ _ _ _ _ _ _ _ _ _ _ _ _ _ _ _ r h => by simp [halberdlaw09_NarrowSound.j0] at h
 | k + 1 => by
  have ih0 := halberdlaw09_NarrowSound.mono_l k
  ·intro y0 y1 y2 y3 y4 y5 y6 y7 y8 y9 y10 y11 y12 y13 y14 y15 y16 y17
   unfold halberdlaw09_NarrowSound.j0
   repeat' first
   | (with_reducible exact ih0 _ _ _ _ _ _ _ _ _ _ _ _ _ _ _ _ _ _)
   | (with_reducible exact halberdlaw09_alive.mono _)
   | (with_reducible exact halberdref04_Holds.mono _ _ _ _ _)
   | (with_reducible exact halberdref07_Has.mono _ _ _ _ _ _ _ _)
   | (with_reducible exact narrow_Way.mono _ _ _ _ _ _ _ _ _ _ _ _ _ _ _ _)
   | (with_reducible exact LeO.refl _)
   | (with_reducible exact LeO.none _)
   | (with_reducible refine LeO.ite ?_ ?_)
   | (with_reducible refine LeO.bind ?_ (fun _ => ?_))
   | exact ih0 _ _ _ _ _ _ _ _ _ _ _ _ _ _ _ _ _ _
   | exact halberdlaw09_alive.mono _
   | exact halberdref04_Holds.mono _ _ _ _ _
   | exact halberdref07_Has.mono _ _ _ _ _ _ _ _
   | exact narrow_Way.mono _ _ _ _ _ _ _ _ _ _ _ _ _ _ _ _
   | exact LeO.none _
   | refine LeO.ite ?_ ?_
   | refine LeO.bind ?_ (fun _ => ?_)
theorem halberdlaw09_NarrowSound.mono : ∀ a0 a1 a2 a3 a4 a5 a6 a7 a8 a9 a10 a11 a12 a13 a14 a15 k, LeO (halberdlaw09_NarrowSound.f k a0 a1 a2 a3 a4 a5 a6 a7 a8 a9 a10 a11 a12 a13 a14 a15) (halberdlaw09_NarrowSound.f (k + 1) a0 a1 a2 a3 a4 a5 a6 a7 a8 a9 a10 a11 a12 a13 a14 a15) := by
 intro a0 a1 a2 a3 a4 a5 a6 a7 a8 a9 a10 a11 a12 a13 a14 a15 k
 have ih0 := halberdlaw09_NarrowSound.mono_l k
 unfold halberdlaw09_NarrowSound.f
 repeat' first
   | (with_reducible exact ih0 _ _ _ _ _ _ _ _ _ _ _ _ _ _ _ _ _ _)
   | (with_reducible exact halberdlaw09_alive.mono _)
   | (with_reducible exact halberdref04_Holds.mono _ _ _ _ _)
   | (with_reducible exact halberdref07_Has.mono _ _ _ _ _ _ _ _)
   | (with_reducible exact narrow_Way.mono _ _ _ _ _ _ _ _ _ _ _ _ _ _ _ _)
   | (with_reducible exact LeO.refl _)
   | (with_reducible exact LeO.none _)
   | (with_reducible refine LeO.ite ?_ ?_)
   | (with_reducible refine LeO.bind ?_ (fun _ => ?_))
   | exact ih0 _ _ _ _ _ _ _ _ _ _ _ _ _ _ _ _ _ _
   | exact halberdlaw09_alive.mono _
   | exact halberdref04_Holds.mono _ _ _ _ _
   | exact halberdref07_Has.mono _ _ _ _ _ _ _ _
   | exact narrow_Way.mono _ _ _ _ _ _ _ _ _ _ _ _ _ _ _ _
   | exact LeO.none _
   | refine LeO.ite ?_ ?_
   | refine LeO.bind ?_ (fun _ => ?_)
set_option maxHeartbeats 8000000 in
set_option maxRecDepth 100000 in
theorem halberdlaw09_NarrowSound.calls (k : Nat) (a0 : Int) (a1 : Bool) (a2_0 : Int) (a2_1 : Int) (a2_2 : Int) (a2_3 : Int) (a2_4 : Int) (a2_5 : Int) (a3_0 : Int) (a3_1 : Int) (a3_2 : Int) (a3_3 : Int) (a3_4 : Int) (a3_5 : Int) (a4 : Int) (a5 : Int) (r : Bool) (w : World) (hr_ : Aside0 (r = true)) (h : halberdlaw09_NarrowSound.f k a0 a1 a2_0 a2_1 a2_2 a2_3 a2_4 a2_5 a3_0 a3_1 a3_2 a3_3 a3_4 a3_5 a4 a5 = some r) :
  Calls Try.prog 12 #[.int .u8 a0, .bool a1, .agg #[.int .u64 a2_0, .int .u64 a2_1, .int .u64 a2_2, .int .u64 a2_3, .int .i64 a2_4, .int .i64 a2_5], .agg #[.int .u64 a3_0, .int .u64 a3_1, .int .u64 a3_2, .int .u64 a3_3, .int .i64 a3_4, .int .i64 a3_5], .int .u64 a4, .int .u64 a5] w fun e w' => e = .returned (.bool r) ∧ Below w.heap.size w w' := by
 have hu36 := Try.underlying36
 have HB := Aside0.mk (Below.refl w.heap.size w)
 have H : ((halberdlaw09_alive.f k).bind fun t152 => (if t152 = true then ((halberdref04_Holds.f k a0 a1 a4 a5).bind fun bt153 => (if bt153.2 = true then ((halberdref07_Has.f k a2_0 a2_1 a2_2 a2_3 a2_4 a2_5 a4).bind fun t155 => (if t155 = true then ((halberdref07_Has.f k a3_0 a3_1 a3_2 a3_3 a3_4 a3_5 a5).bind fun t156 => (halberdlaw09_NarrowSound.j0 k a0 a1 a4 a5 bt153.1 (!t156) a2_0 a2_1 a2_2 a2_3 a2_4 a2_5 a3_0 a3_1 a3_2 a3_3 a3_4 a3_5)) else (halberdlaw09_NarrowSound.j0 k a0 a1 a4 a5 bt153.1 true a2_0 a2_1 a2_2 a2_3 a2_4 a2_5 a3_0 a3_1 a3_2 a3_3 a3_4 a3_5))) else (halberdlaw09_NarrowSound.j0 k a0 a1 a4 a5 bt153.1 true a2_0 a2_1 a2_2 a2_3 a2_4 a2_5 a3_0 a3_1 a3_2 a3_3 a3_4 a3_5))) else (some false))) = some r := h
 clear h
 replace H := Option.bind_eq_some_iff.mp H
 obtain ⟨t152, A70, H⟩ := H
 replace H : (if t152 = true then ((halberdref04_Holds.f k a0 a1 a4 a5).bind fun bt153 => (if bt153.2 = true then ((halberdref07_Has.f k a2_0 a2_1 a2_2 a2_3 a2_4 a2_5 a4).bind fun t155 => (if t155 = true then ((halberdref07_Has.f k a3_0 a3_1 a3_2 a3_3 a3_4 a3_5 a5).bind fun t156 => (halberdlaw09_NarrowSound.j0 k a0 a1 a4 a5 bt153.1 (!t156) a2_0 a2_1 a2_2 a2_3 a2_4 a2_5 a3_0 a3_1 a3_2 a3_3 a3_4 a3_5)) else (halberdlaw09_NarrowSound.j0 k a0 a1 a4 a5 bt153.1 true a2_0 a2_1 a2_2 a2_3 a2_4 a2_5 a3_0 a3_1 a3_2 a3_3 a3_4 a3_5))) else (halberdlaw09_NarrowSound.j0 k a0 a1 a4 a5 bt153.1 true a2_0 a2_1 a2_2 a2_3 a2_4 a2_5 a3_0 a3_1 a3_2 a3_3 a3_4 a3_5))) else (some false)) = some r := H
 have A7 := Aside0.mk A70
 clear A70
 by_cases c8 : t152 = true
 ·subst c8
  have H1 : ((halberdref04_Holds.f k a0 a1 a4 a5).bind fun bt153 => (if bt153.2 = true then ((halberdref07_Has.f k a2_0 a2_1 a2_2 a2_3 a2_4 a2_5 a4).bind fun t155 => (if t155 = true then ((halberdref07_Has.f k a3_0 a3_1 a3_2 a3_3 a3_4 a3_5 a5).bind fun t156 => (halberdlaw09_NarrowSound.j0 k a0 a1 a4 a5 bt153.1 (!t156) a2_0 a2_1 a2_2 a2_3 a2_4 a2_5 a3_0 a3_1 a3_2 a3_3 a3_4 a3_5)) else (halberdlaw09_NarrowSound.j0 k a0 a1 a4 a5 bt153.1 true a2_0 a2_1 a2_2 a2_3 a2_4 a2_5 a3_0 a3_1 a3_2 a3_3 a3_4 a3_5))) else (halberdlaw09_NarrowSound.j0 k a0 a1 a4 a5 bt153.1 true a2_0 a2_1 a2_2 a2_3 a2_4 a2_5 a3_0 a3_1 a3_2 a3_3 a3_4 a3_5))) = some r := by rw [if_pos rfl] at H; exact H
  clear H
  have H := H1
  clear H1
  replace H := Option.bind_eq_some_iff.mp H
  obtain ⟨⟨t153, t154⟩, A90, H⟩ := H
  replace H : (if t154 = true then ((halberdref07_Has.f k a2_0 a2_1 a2_2 a2_3 a2_4 a2_5 a4).bind fun t155 => (if t155 = true then ((halberdref07_Has.f k a3_0 a3_1 a3_2 a3_3 a3_4 a3_5 a5).bind fun t156 => (halberdlaw09_NarrowSound.j0 k a0 a1 a4 a5 t153 (!t156) a2_0 a2_1 a2_2 a2_3 a2_4 a2_5 a3_0 a3_1 a3_2 a3_3 a3_4 a3_5)) else (halberdlaw09_NarrowSound.j0 k a0 a1 a4 a5 t153 true a2_0 a2_1 a2_2 a2_3 a2_4 a2_5 a3_0 a3_1 a3_2 a3_3 a3_4 a3_5))) else (halberdlaw09_NarrowSound.j0 k a0 a1 a4 a5 t153 true a2_0 a2_1 a2_2 a2_3 a2_4 a2_5 a3_0 a3_1 a3_2 a3_3 a3_4 a3_5)) = some r := H
  have A9 := Aside0.mk A90
  clear A90
  have HC10 := Aside0.mk H
  clear H
  go_enter Try.func12, Try.ntmps12
  go_upto_region 4 with (first | ((with_reducible refine gate_dst (N := 8) rfl ?_); refine box_event ?hg (N := 8) ?hd (cs := #[.int .u64 a2_0, .int .u64 a2_1, .int .u64 a2_2, .int .u64 a2_3, .int .i64 a2_4, .int .i64 a2_5]) (t := 36) ?hr ?_; (case hd => rfl); (case hg => rfl); (case hr => first | (go_simp; done) | (go_simp; rfl)); intro gb150 hg w11 hbox hb; have n0_ := Aside0.mk (below_step (by repeat (first | (with_reducible first | exact HB.out | apply below_alloc | apply pw_below_drewN | apply below_drew1) | exact HB.out)) hb); have n1_ := Aside0.mk (hbox); have n2_ := Aside0.mk ((by rw [hg]; exact (below_size (by repeat (first | (with_reducible first | exact HB.out | apply below_alloc | apply pw_below_drewN | apply below_drew1) | exact HB.out))) : w.heap.size ≤ gb150)); have n3_ := Aside0.mk ((by rw [hg]; exact (below_size (by repeat (first | (with_reducible first | exact HB.out | apply below_alloc | apply pw_below_drewN | apply below_drew1) | exact HB.out))) : w.heap.size ≤ gb150)); clear HB; have HB := n0_; have BK150 := n1_; have GW150 := n2_; have GE150 := n3_; clear n0_ n1_ n2_ n3_; clear hb hbox hg) | ((with_reducible refine gate_dst (N := 9) rfl ?_); refine box_event ?hg (N := 9) ?hd (cs := #[.int .u64 a3_0, .int .u64 a3_1, .int .u64 a3_2, .int .u64 a3_3, .int .i64 a3_4, .int .i64 a3_5]) (t := 36) ?hr ?_; (case hd => rfl); (case hg => rfl); (case hr => first | (go_simp; done) | (go_simp; rfl)); intro gb151 hg w12 hbox hb; have n0_ := Aside0.mk (blk_below (g := gb150) (o := .cells #[.int .u64 a2_0, .int .u64 a2_1, .int .u64 a2_2, .int .u64 a2_3, .int .i64 a2_4, .int .i64 a2_5] 36 (0, 0)) (by (with_reducible repeat (first | refine blk_drewN ?_ _ | refine blk_drew ?_ | refine blk_alloc ?_ _)); exact BK150.out) hb); have n1_ := Aside0.mk (below_step (by repeat (first | (with_reducible first | exact HB.out | apply below_alloc | apply pw_below_drewN | apply below_drew1 | refine below_set ?_ GE150.out) | exact HB.out)) hb); have n2_ := Aside0.mk (hbox); have n3_ := Aside0.mk ((by rw [hg]; exact (below_size (by repeat (first | (with_reducible first | exact HB.out | apply below_alloc | apply pw_below_drewN | apply below_drew1 | refine below_set ?_ GE150.out) | exact HB.out))) : w.heap.size ≤ gb151)); have n4_ := Aside0.mk ((by rw [hg]; exact (below_size (by repeat (first | (with_reducible first | exact HB.out | apply below_alloc | apply pw_below_drewN | apply below_drew1 | refine below_set ?_ GE150.out) | exact HB.out))) : w.heap.size ≤ gb151)); have n5_ := Aside0.mk ((by rw [hg]; exact Nat.ne_of_lt (blk_lt (g := gb150) (o := .cells #[.int .u64 a2_0, .int .u64 a2_1, .int .u64 a2_2, .int .u64 a2_3, .int .i64 a2_4, .int .i64 a2_5] 36 (0, 0)) (by (with_reducible repeat (first | refine blk_drewN ?_ _ | refine blk_drew ?_ | refine blk_alloc ?_ _)); exact BK150.out)) : gb150 ≠ gb151)); have n6_ := Aside0.mk ((by rw [hg]; exact Nat.ne_of_gt (blk_lt (g := gb150) (o := .cells #[.int .u64 a2_0, .int .u64 a2_1, .int .u64 a2_2, .int .u64 a2_3, .int .i64 a2_4, .int .i64 a2_5] 36 (0, 0)) (by (with_reducible repeat (first | refine blk_drewN ?_ _ | refine blk_drew ?_ | refine blk_alloc ?_ _)); exact BK150.out)) : gb151 ≠ gb150)); clear BK150; clear HB; have BK150 := n0_; have HB := n1_; have BK151 := n2_; have GW151 := n3_; have GE151 := n4_; have NB150_151 := n5_; have NB151_150 := n6_; clear n0_ n1_ n2_ n3_ n4_ n5_ n6_; clear hb hbox hg) | ((with_reducible refine gate_callee (f := 33) rfl ?_); refine goesL_ (some 18) rfl rfl Try.func33 (by kernel_rfl) rfl #[] rfl (by (try simp only [List.map_toArray, List.map_cons, List.map_nil]); first | done | rfl | (simp only [List.length_drop, List.length_take]; rfl)) ?_; (with_reducible refine (halberdlaw09_alive.calls k  true _ A7.out).mono ?_); rintro e w13 ⟨rfl, hb⟩; refine ⟨_, rfl, ?_⟩; have n0_ := Aside0.mk (blk_below (g := gb150) (o := .cells #[.int .u64 a2_0, .int .u64 a2_1, .int .u64 a2_2, .int .u64 a2_3, .int .i64 a2_4, .int .i64 a2_5] 36 (0, 0)) (by (with_reducible repeat (first | refine blk_drewN ?_ _ | refine blk_drew ?_ | refine blk_alloc ?_ _)); exact BK150.out) hb); have n1_ := Aside0.mk (blk_below (g := gb151) (o := .cells #[.int .u64 a3_0, .int .u64 a3_1, .int .u64 a3_2, .int .u64 a3_3, .int .i64 a3_4, .int .i64 a3_5] 36 (0, 0)) (by (with_reducible repeat (first | refine blk_drewN ?_ _ | refine blk_drew ?_ | refine blk_alloc ?_ _)); exact BK151.out) hb); have n2_ := Aside0.mk (below_step (by repeat (first | (with_reducible first | exact HB.out | apply below_alloc | apply pw_below_drewN | apply below_drew1 | refine below_set ?_ GE150.out | refine below_set ?_ GE151.out) | exact HB.out)) hb); clear BK150; clear BK151; clear HB; have BK150 := n0_; have BK151 := n1_; have HB := n2_; clear n0_ n1_ n2_; (try clear hb); (try clear hb2); (try clear hk); (try clear hi)) | ((with_reducible refine gate_callee (f := 17) rfl ?_); refine goesL_ (some 25) rfl rfl Try.func17 (by kernel_rfl) rfl #[.int .u8 a0, .bool a1, .int .u64 a4, .int .u64 a5] rfl (by (try simp only [List.map_toArray, List.map_cons, List.map_nil]); first | done | rfl | (simp only [List.length_drop, List.length_take]; rfl)) ?_; (with_reducible refine (halberdref04_Holds.calls k a0 a1 a4 a5 t153 t154 _ A9.out).mono ?_); rintro e w' ⟨rfl, ⟨nd, rfl⟩⟩; refine ⟨_, rfl, ?_⟩))
  (try simp only [Act.put, List.setIfInBounds_toArray, List.set_cons_zero, List.set_cons_succ])
  go_cut [41] (fun v41 wc => ∃ (kq : Nat) (x41_9 : Bool), v41 = .bool x41_9 ∧ Aside0 (halberdlaw09_NarrowSound.j0 kq a0 a1 a4 a5 t153 x41_9 a2_0 a2_1 a2_2 a2_3 a2_4 a2_5 a3_0 a3_1 a3_2 a3_3 a3_4 a3_5 = some r) ∧ Aside0 (kq ≤ k) ∧ Aside0 (wc.heap[gb150]? = some (.cells #[.int .u64 a2_0, .int .u64 a2_1, .int .u64 a2_2, .int .u64 a2_3, .int .i64 a2_4, .int .i64 a2_5] 36 (0, 0))) ∧ Aside0 (wc.heap[gb151]? = some (.cells #[.int .u64 a3_0, .int .u64 a3_1, .int .u64 a3_2, .int .u64 a3_3, .int .i64 a3_4, .int .i64 a3_5] 36 (0, 0))) ∧ Aside0 (Below w.heap.size w wc))
  case first =>
   have H := HC10.out
   clear HC10
   by_cases c14 : t154 = true
   ·subst c14
    have H1 : ((halberdref07_Has.f k a2_0 a2_1 a2_2 a2_3 a2_4 a2_5 a4).bind fun t155 => (if t155 = true then ((halberdref07_Has.f k a3_0 a3_1 a3_2 a3_3 a3_4 a3_5 a5).bind fun t156 => (halberdlaw09_NarrowSound.j0 k a0 a1 a4 a5 t153 (!t156) a2_0 a2_1 a2_2 a2_3 a2_4 a2_5 a3_0 a3_1 a3_2 a3_3 a3_4 a3_5)) else (halberdlaw09_NarrowSound.j0 k a0 a1 a4 a5 t153 true a2_0 a2_1 a2_2 a2_3 a2_4 a2_5 a3_0 a3_1 a3_2 a3_3 a3_4 a3_5))) = some r := by rw [if_pos rfl] at H; exact H
    clear H
    have H := H1
    clear H1
    replace H := Option.bind_eq_some_iff.mp H
    obtain ⟨t155, A150, H⟩ := H
    replace H : (if t155 = true then ((halberdref07_Has.f k a3_0 a3_1 a3_2 a3_3 a3_4 a3_5 a5).bind fun t156 => (halberdlaw09_NarrowSound.j0 k a0 a1 a4 a5 t153 (!t156) a2_0 a2_1 a2_2 a2_3 a2_4 a2_5 a3_0 a3_1 a3_2 a3_3 a3_4 a3_5)) else (halberdlaw09_NarrowSound.j0 k a0 a1 a4 a5 t153 true a2_0 a2_1 a2_2 a2_3 a2_4 a2_5 a3_0 a3_1 a3_2 a3_3 a3_4 a3_5)) = some r := H
    have A15 := Aside0.mk A150
    clear A150
    by_cases c16 : t155 = true
    ·subst c16
     have H1 : ((halberdref07_Has.f k a3_0 a3_1 a3_2 a3_3 a3_4 a3_5 a5).bind fun t156 => (halberdlaw09_NarrowSound.j0 k a0 a1 a4 a5 t153 (!t156) a2_0 a2_1 a2_2 a2_3 a2_4 a2_5 a3_0 a3_1 a3_2 a3_3 a3_4 a3_5)) = some r := by rw [if_pos rfl] at H; exact H
     clear H
     have H := H1
     clear H1
     replace H := Option.bind_eq_some_iff.mp H
     obtain ⟨t156, A170, H⟩ := H
     replace H : (halberdlaw09_NarrowSound.j0 k a0 a1 a4 a5 t153 (!t156) a2_0 a2_1 a2_2 a2_3 a2_4 a2_5 a3_0 a3_1 a3_2 a3_3 a3_4 a3_5) = some r := H
     have A17 := Aside0.mk A170
     clear A170
     have H' := Aside0.mk H
     clear H
     have hnb18 := NB150_151.out
     have hnc18 := NB151_150.out
     have hcz19_0 : w13.cell? ⟨gb150, 0, none⟩ = some (.int .u64 a2_0) := (blk_cell BK150.out 0).trans rfl
     have hcz19_1 : w13.cell? ⟨gb150, 1, none⟩ = some (.int .u64 a2_1) := (blk_cell BK150.out 1).trans rfl
     have hcz19_2 : w13.cell? ⟨gb150, 2, none⟩ = some (.int .u64 a2_2) := (blk_cell BK150.out 2).trans rfl
     have hcz19_3 : w13.cell? ⟨gb150, 3, none⟩ = some (.int .u64 a2_3) := (blk_cell BK150.out 3).trans rfl
     have hcz19_4 : w13.cell? ⟨gb150, 4, none⟩ = some (.int .i64 a2_4) := (blk_cell BK150.out 4).trans rfl
     have hcz19_5 : w13.cell? ⟨gb150, 5, none⟩ = some (.int .i64 a2_5) := (blk_cell BK150.out 5).trans rfl
     have hfz19_0 := blk_frozen BK150.out 0
     have hfz19_1 := blk_frozen BK150.out 1
     have hfz19_2 := blk_frozen BK150.out 2
     have hfz19_3 := blk_frozen BK150.out 3
     have hfz19_4 := blk_frozen BK150.out 4
     have hfz19_5 := blk_frozen BK150.out 5
     go_wp2_with (first | (go_at_call 26; (with_reducible refine (halberdref07_Has.calls k a2_0 a2_1 a2_2 a2_3 a2_4 a2_5 a4 true _ A15.out).mono ?_); rintro e w20 ⟨rfl, hb⟩; have n0_ := Aside0.mk (blk_below (g := gb150) (o := .cells #[.int .u64 a2_0, .int .u64 a2_1, .int .u64 a2_2, .int .u64 a2_3, .int .i64 a2_4, .int .i64 a2_5] 36 (0, 0)) (by (with_reducible repeat (first | refine blk_drewN ?_ _ | refine blk_drew ?_ | refine blk_alloc ?_ _)); exact BK150.out) hb); have n1_ := Aside0.mk (blk_below (g := gb151) (o := .cells #[.int .u64 a3_0, .int .u64 a3_1, .int .u64 a3_2, .int .u64 a3_3, .int .i64 a3_4, .int .i64 a3_5] 36 (0, 0)) (by (with_reducible repeat (first | refine blk_drewN ?_ _ | refine blk_drew ?_ | refine blk_alloc ?_ _)); exact BK151.out) hb); have n2_ := Aside0.mk (below_step (by repeat (first | (with_reducible first | exact HB.out | apply below_alloc | apply pw_below_drewN | apply below_drew1 | refine below_set ?_ GE150.out | refine below_set ?_ GE151.out) | exact HB.out)) hb); clear BK150; clear BK151; clear HB; have BK150 := n0_; have BK151 := n1_; have HB := n2_; clear n0_ n1_ n2_; (try clear hb); (try clear hb2); (try clear hk); (try clear hi); have hcz21_0 : w20.cell? ⟨gb151, 0, none⟩ = some (.int .u64 a3_0) := (blk_cell BK151.out 0).trans rfl; have hcz21_1 : w20.cell? ⟨gb151, 1, none⟩ = some (.int .u64 a3_1) := (blk_cell BK151.out 1).trans rfl; have hcz21_2 : w20.cell? ⟨gb151, 2, none⟩ = some (.int .u64 a3_2) := (blk_cell BK151.out 2).trans rfl; have hcz21_3 : w20.cell? ⟨gb151, 3, none⟩ = some (.int .u64 a3_3) := (blk_cell BK151.out 3).trans rfl; have hcz21_4 : w20.cell? ⟨gb151, 4, none⟩ = some (.int .i64 a3_4) := (blk_cell BK151.out 4).trans rfl; have hcz21_5 : w20.cell? ⟨gb151, 5, none⟩ = some (.int .i64 a3_5) := (blk_cell BK151.out 5).trans rfl; have hfz21_0 := blk_frozen BK151.out 0; have hfz21_1 := blk_frozen BK151.out 1; have hfz21_2 := blk_frozen BK151.out 2; have hfz21_3 := blk_frozen BK151.out 3; have hfz21_4 := blk_frozen BK151.out 4; have hfz21_5 := blk_frozen BK151.out 5) | (go_at_call 26; (with_reducible refine (halberdref07_Has.calls k a3_0 a3_1 a3_2 a3_3 a3_4 a3_5 a5 t156 _ A17.out).mono ?_); rintro e w22 ⟨rfl, hb⟩; have n0_ := Aside0.mk (blk_below (g := gb150) (o := .cells #[.int .u64 a2_0, .int .u64 a2_1, .int .u64 a2_2, .int .u64 a2_3, .int .i64 a2_4, .int .i64 a2_5] 36 (0, 0)) (by (with_reducible repeat (first | refine blk_drewN ?_ _ | refine blk_drew ?_ | refine blk_alloc ?_ _)); exact BK150.out) hb); have n1_ := Aside0.mk (blk_below (g := gb151) (o := .cells #[.int .u64 a3_0, .int .u64 a3_1, .int .u64 a3_2, .int .u64 a3_3, .int .i64 a3_4, .int .i64 a3_5] 36 (0, 0)) (by (with_reducible repeat (first | refine blk_drewN ?_ _ | refine blk_drew ?_ | refine blk_alloc ?_ _)); exact BK151.out) hb); have n2_ := Aside0.mk (below_step (by repeat (first | (with_reducible first | exact HB.out | apply below_alloc | apply pw_below_drewN | apply below_drew1 | refine below_set ?_ GE150.out | refine below_set ?_ GE151.out) | exact HB.out)) hb); clear BK150; clear BK151; clear HB; have BK150 := n0_; have BK151 := n1_; have HB := n2_; clear n0_ n1_ n2_; (try clear hb); (try clear hb2); (try clear hk); (try clear hi)))
     go_meet
     case rel => exact ⟨_, (!t156), (by first | rfl | (simp; done) | (simp [*]; done)), H', ⟨by first | omega | exact Nat.le_refl _⟩, ⟨by (with_reducible repeat (first | refine blk_drewN ?_ _ | refine blk_drew ?_ | refine blk_alloc ?_ _)); exact BK150.out⟩, ⟨by (with_reducible repeat (first | refine blk_drewN ?_ _ | refine blk_drew ?_ | refine blk_alloc ?_ _)); exact BK151.out⟩, ⟨by repeat (first | (with_reducible first | exact HB.out | apply below_alloc | apply pw_below_drewN | apply below_drew1 | refine below_set ?_ GE150.out | refine below_set ?_ GE151.out) | exact HB.out)⟩⟩
    ·replace c16 := Bool.eq_false_iff.mpr c16
     subst c16
     have H1 : (halberdlaw09_NarrowSound.j0 k a0 a1 a4 a5 t153 true a2_0 a2_1 a2_2 a2_3 a2_4 a2_5 a3_0 a3_1 a3_2 a3_3 a3_4 a3_5) = some r := by rw [if_neg (show ¬ (false = true) by decide)] at H; exact H
     clear H
     have H := H1
     clear H1
     have H' := Aside0.mk H
     clear H
     have hnb23 := NB150_151.out
     have hnc23 := NB151_150.out
     have hcz24_0 : w13.cell? ⟨gb150, 0, none⟩ = some (.int .u64 a2_0) := (blk_cell BK150.out 0).trans rfl
     have hcz24_1 : w13.cell? ⟨gb150, 1, none⟩ = some (.int .u64 a2_1) := (blk_cell BK150.out 1).trans rfl
     have hcz24_2 : w13.cell? ⟨gb150, 2, none⟩ = some (.int .u64 a2_2) := (blk_cell BK150.out 2).trans rfl
     have hcz24_3 : w13.cell? ⟨gb150, 3, none⟩ = some (.int .u64 a2_3) := (blk_cell BK150.out 3).trans rfl
     have hcz24_4 : w13.cell? ⟨gb150, 4, none⟩ = some (.int .i64 a2_4) := (blk_cell BK150.out 4).trans rfl
     have hcz24_5 : w13.cell? ⟨gb150, 5, none⟩ = some (.int .i64 a2_5) := (blk_cell BK150.out 5).trans rfl
     have hfz24_0 := blk_frozen BK150.out 0
     have hfz24_1 := blk_frozen BK150.out 1
     have hfz24_2 := blk_frozen BK150.out 2
     have hfz24_3 := blk_frozen BK150.out 3
     have hfz24_4 := blk_frozen BK150.out 4
     have hfz24_5 := blk_frozen BK150.out 5
     go_wp2_with (first | (go_at_call 26; (with_reducible refine (halberdref07_Has.calls k a2_0 a2_1 a2_2 a2_3 a2_4 a2_5 a4 false _ A15.out).mono ?_); rintro e w25 ⟨rfl, hb⟩; have n0_ := Aside0.mk (blk_below (g := gb150) (o := .cells #[.int .u64 a2_0, .int .u64 a2_1, .int .u64 a2_2, .int .u64 a2_3, .int .i64 a2_4, .int .i64 a2_5] 36 (0, 0)) (by (with_reducible repeat (first | refine blk_drewN ?_ _ | refine blk_drew ?_ | refine blk_alloc ?_ _)); exact BK150.out) hb); have n1_ := Aside0.mk (blk_below (g := gb151) (o := .cells #[.int .u64 a3_0, .int .u64 a3_1, .int .u64 a3_2, .int .u64 a3_3, .int .i64 a3_4, .int .i64 a3_5] 36 (0, 0)) (by (with_reducible repeat (first | refine blk_drewN ?_ _ | refine blk_drew ?_ | refine blk_alloc ?_ _)); exact BK151.out) hb); have n2_ := Aside0.mk (below_step (by repeat (first | (with_reducible first | exact HB.out | apply below_alloc | apply pw_below_drewN | apply below_drew1 | refine below_set ?_ GE150.out | refine below_set ?_ GE151.out) | exact HB.out)) hb); clear BK150; clear BK151; clear HB; have BK150 := n0_; have BK151 := n1_; have HB := n2_; clear n0_ n1_ n2_; (try clear hb); (try clear hb2); (try clear hk); (try clear hi)))
     go_meet
     case rel => exact ⟨_, (true), (by first | rfl | (simp; done) | (simp [*]; done)), H', ⟨by first | omega | exact Nat.le_refl _⟩, ⟨by (with_reducible repeat (first | refine blk_drewN ?_ _ | refine blk_drew ?_ | refine blk_alloc ?_ _)); exact BK150.out⟩, ⟨by (with_reducible repeat (first | refine blk_drewN ?_ _ | refine blk_drew ?_ | refine blk_alloc ?_ _)); exact BK151.out⟩, ⟨by repeat (first | (with_reducible first | exact HB.out | apply below_alloc | apply pw_below_drewN | apply below_drew1 | refine below_set ?_ GE150.out | refine below_set ?_ GE151.out) | exact HB.out)⟩⟩
   ·replace c14 := Bool.eq_false_iff.mpr c14
    subst c14
    have H1 : (halberdlaw09_NarrowSound.j0 k a0 a1 a4 a5 t153 true a2_0 a2_1 a2_2 a2_3 a2_4 a2_5 a3_0 a3_1 a3_2 a3_3 a3_4 a3_5) = some r := by rw [if_neg (show ¬ (false = true) by decide)] at H; exact H
    clear H
    have H := H1
    clear H1
    have H' := Aside0.mk H
    clear H
    go_wp2
    go_meet
    case rel => exact ⟨_, (true), (by first | rfl | (simp; done) | (simp [*]; done)), H', ⟨by first | omega | exact Nat.le_refl _⟩, ⟨by (with_reducible repeat (first | refine blk_drewN ?_ _ | refine blk_drew ?_ | refine blk_alloc ?_ _)); exact BK150.out⟩, ⟨by (with_reducible repeat (first | refine blk_drewN ?_ _ | refine blk_drew ?_ | refine blk_alloc ?_ _)); exact BK151.out⟩, ⟨by repeat (first | (with_reducible first | exact HB.out | apply below_alloc | apply pw_below_drewN | apply below_drew1 | refine below_set ?_ GE150.out | refine below_set ?_ GE151.out) | exact HB.out)⟩⟩
  case rest =>
   clear HC10
   try clear c1
   try clear c2
   try clear p2
   try clear c3
   try clear c8
   try clear c12
   try clear c14
   try clear c16
   try clear c17
   try clear c18
   try clear c23
   try clear hcz19_0
   try clear hcz19_1
   try clear hcz19_2
   try clear hcz19_3
   try clear hcz19_4
   try clear hcz19_5
   try clear hcz21_0
   try clear hcz21_1
   try clear hcz21_2
   try clear hcz21_3
   try clear hcz21_4
   try clear hcz21_5
   try clear hcz24_0
   try clear hcz24_1
   try clear hcz24_2
   try clear hcz24_3
   try clear hcz24_4
   try clear hcz24_5
   try clear hfz19_0
   try clear hfz19_1
   try clear hfz19_2
   try clear hfz19_3
   try clear hfz19_4
   try clear hfz19_5
   try clear hfz21_0
   try clear hfz21_1
   try clear hfz21_2
   try clear hfz21_3
   try clear hfz21_4
   try clear hfz21_5
   try clear hfz24_0
   try clear hfz24_1
   try clear hfz24_2
   try clear hfz24_3
   try clear hfz24_4
   try clear hfz24_5
   obtain ⟨kq, x41_9, rfl, HA, HJ9, BK150, BK151, HB⟩ := hcut
   cases kq with
   | zero => exact absurd HA.out (by simp [halberdlaw09_NarrowSound.j0])
   | succ kj9 =>
    have H := HA.out
    clear HA
    simp only [halberdlaw09_NarrowSound.j0] at H
    by_cases c26 : x41_9 = true
    ·subst c26
     have H1 : (some true) = some r := by rw [if_pos rfl] at H; exact H
     clear H
     have H := H1
     clear H1
     obtain rfl := Option.some.inj H
     go_wp2
     go_ret
     exact ⟨by first | rfl | (simp [errW_none, errW_some] <;> rfl) | (simp [*, errW_none, errW_some] <;> rfl), by repeat (first | (with_reducible first | exact HB.out | apply below_alloc | apply pw_below_drewN | apply below_drew1 | refine below_set ?_ GE150.out | refine below_set ?_ GE151.out) | exact HB.out)⟩
    ·replace c26 := Bool.eq_false_iff.mpr c26
     subst c26
     have H1 : ((narrow_Way.f kj9 a0 a1 a2_0 a2_1 a2_2 a2_3 a2_4 a2_5 a3_0 a3_1 a3_2 a3_3 a3_4 a3_5 t153).bind fun bt157 => (if bt157.2.2.2.2.2.2.2.2.2.2.2.2 = true then ((halberdref07_Has.f kj9 bt157.1 bt157.2.1 bt157.2.2.1 bt157.2.2.2.1 bt157.2.2.2.2.1 bt157.2.2.2.2.2.1 a4).bind fun t172 => (if t172 = true then ((halberdref07_Has.f kj9 bt157.2.2.2.2.2.2.1 bt157.2.2.2.2.2.2.2.1 bt157.2.2.2.2.2.2.2.2.1 bt157.2.2.2.2.2.2.2.2.2.1 bt157.2.2.2.2.2.2.2.2.2.2.1 bt157.2.2.2.2.2.2.2.2.2.2.2.1 a5).bind fun t173 => (some t173)) else (some false))) else (some false))) = some r := by rw [if_neg (show ¬ (false = true) by decide)] at H; exact H
     clear H
     have H := H1
     clear H1
     replace H := Option.bind_eq_some_iff.mp H
     obtain ⟨⟨t157, t158, t159, t160, t161, t162, t163, t164, t165, t166, t167, t168, t169⟩, A270, H⟩ := H
     replace H : (if t169 = true then ((halberdref07_Has.f kj9 t157 t158 t159 t160 t161 t162 a4).bind fun t172 => (if t172 = true then ((halberdref07_Has.f kj9 t163 t164 t165 t166 t167 t168 a5).bind fun t173 => (some t173)) else (some false))) else (some false)) = some r := H
     have A27 := Aside0.mk A270
     clear A270
     by_cases c28 : t169 = true
     ·subst c28
      have H1 : ((halberdref07_Has.f kj9 t157 t158 t159 t160 t161 t162 a4).bind fun t172 => (if t172 = true then ((halberdref07_Has.f kj9 t163 t164 t165 t166 t167 t168 a5).bind fun t173 => (some t173)) else (some false))) = some r := by rw [if_pos rfl] at H; exact H
      clear H
      have H := H1
      clear H1
      replace H := Option.bind_eq_some_iff.mp H
      obtain ⟨t172, A290, H⟩ := H
      replace H : (if t172 = true then ((halberdref07_Has.f kj9 t163 t164 t165 t166 t167 t168 a5).bind fun t173 => (some t173)) else (some false)) = some r := H
      have A29 := Aside0.mk A290
      clear A290
      by_cases c30 : t172 = true
      ·subst c30
       have H1 : ((halberdref07_Has.f kj9 t163 t164 t165 t166 t167 t168 a5).bind fun t173 => (some t173)) = some r := by rw [if_pos rfl] at H; exact H
       clear H
       have H := H1
       clear H1
       replace H := Option.bind_eq_some_iff.mp H
       obtain ⟨t173, A310, H⟩ := H
       replace H : (some t173) = some r := H
       have A31 := Aside0.mk A310
       clear A310
       obtain rfl := Option.some.inj H
       have hnb32 := NB150_151.out
       have hnc32 := NB151_150.out
       have hcz33_0 : wc.cell? ⟨gb150, 0, none⟩ = some (.int .u64 a2_0) := (blk_cell BK150.out 0).trans rfl
       have hcz33_1 : wc.cell? ⟨gb150, 1, none⟩ = some (.int .u64 a2_1) := (blk_cell BK150.out 1).trans rfl
       have hcz33_2 : wc.cell? ⟨gb150, 2, none⟩ = some (.int .u64 a2_2) := (blk_cell BK150.out 2).trans rfl
       have hcz33_3 : wc.cell? ⟨gb150, 3, none⟩ = some (.int .u64 a2_3) := (blk_cell BK150.out 3).trans rfl
       have hcz33_4 : wc.cell? ⟨gb150, 4, none⟩ = some (.int .i64 a2_4) := (blk_cell BK150.out 4).trans rfl
       have hcz33_5 : wc.cell? ⟨gb150, 5, none⟩ = some (.int .i64 a2_5) := (blk_cell BK150.out 5).trans rfl
       have hfz33_0 := blk_frozen BK150.out 0
       have hfz33_1 := blk_frozen BK150.out 1
       have hfz33_2 := blk_frozen BK150.out 2
       have hfz33_3 := blk_frozen BK150.out 3
       have hfz33_4 := blk_frozen BK150.out 4
       have hfz33_5 := blk_frozen BK150.out 5
       have hcz34_0 : wc.cell? ⟨gb151, 0, none⟩ = some (.int .u64 a3_0) := (blk_cell BK151.out 0).trans rfl
       have hcz34_1 : wc.cell? ⟨gb151, 1, none⟩ = some (.int .u64 a3_1) := (blk_cell BK151.out 1).trans rfl
       have hcz34_2 : wc.cell? ⟨gb151, 2, none⟩ = some (.int .u64 a3_2) := (blk_cell BK151.out 2).trans rfl
       have hcz34_3 : wc.cell? ⟨gb151, 3, none⟩ = some (.int .u64 a3_3) := (blk_cell BK151.out 3).trans rfl
       have hcz34_4 : wc.cell? ⟨gb151, 4, none⟩ = some (.int .i64 a3_4) := (blk_cell BK151.out 4).trans rfl
       have hcz34_5 : wc.cell? ⟨gb151, 5, none⟩ = some (.int .i64 a3_5) := (blk_cell BK151.out 5).trans rfl
       have hfz34_0 := blk_frozen BK151.out 0
       have hfz34_1 := blk_frozen BK151.out 1
       have hfz34_2 := blk_frozen BK151.out 2
       have hfz34_3 := blk_frozen BK151.out 3
       have hfz34_4 := blk_frozen BK151.out 4
       have hfz34_5 := blk_frozen BK151.out 5
       go_wp2_with (first | ((with_reducible refine gate_callee (f := 34) rfl ?_); refine goesL_ (some 48) rfl rfl Try.func34 (by kernel_rfl) rfl #[.int .u8 a0, .bool a1, .agg #[.int .u64 a2_0, .int .u64 a2_1, .int .u64 a2_2, .int .u64 a2_3, .int .i64 a2_4, .int .i64 a2_5], .agg #[.int .u64 a3_0, .int .u64 a3_1, .int .u64 a3_2, .int .u64 a3_3, .int .i64 a3_4, .int .i64 a3_5], .bool t153] rfl (by (try simp only [List.map_toArray, List.map_cons, List.map_nil]); first | done | rfl | (simp only [List.length_drop, List.length_take]; rfl)) ?_; (with_reducible refine (narrow_Way.calls kj9 a0 a1 a2_0 a2_1 a2_2 a2_3 a2_4 a2_5 a3_0 a3_1 a3_2 a3_3 a3_4 a3_5 t153 t157 t158 t159 t160 t161 t162 t163 t164 t165 t166 t167 t168 true _ A27.out).mono ?_); rintro e w35 ⟨rfl, hb⟩; refine ⟨_, rfl, ?_⟩; have n0_ := Aside0.mk (blk_below (g := gb150) (o := .cells #[.int .u64 a2_0, .int .u64 a2_1, .int .u64 a2_2, .int .u64 a2_3, .int .i64 a2_4, .int .i64 a2_5] 36 (0, 0)) (by (with_reducible repeat (first | refine blk_drewN ?_ _ | refine blk_drew ?_ | refine blk_alloc ?_ _)); exact BK150.out) hb); have n1_ := Aside0.mk (blk_below (g := gb151) (o := .cells #[.int .u64 a3_0, .int .u64 a3_1, .int .u64 a3_2, .int .u64 a3_3, .int .i64 a3_4, .int .i64 a3_5] 36 (0, 0)) (by (with_reducible repeat (first | refine blk_drewN ?_ _ | refine blk_drew ?_ | refine blk_alloc ?_ _)); exact BK151.out) hb); have n2_ := Aside0.mk (below_step (by repeat (first | (with_reducible first | exact HB.out | apply below_alloc | apply pw_below_drewN | apply below_drew1 | refine below_set ?_ GE150.out | refine below_set ?_ GE151.out) | exact HB.out)) hb); clear BK150; clear BK151; clear HB; have BK150 := n0_; have BK151 := n1_; have HB := n2_; clear n0_ n1_ n2_; (try clear hb); (try clear hb2); (try clear hk); (try clear hi)) | ((with_reducible refine gate_dst (N := 15) rfl ?_); refine box_event ?hg (N := 15) ?hd (cs := #[.int .u64 0, .int .u64 0, .int .u64 0, .int .u64 0, .int .i64 0, .int .i64 0]) (t := 36) ?hr ?_; (case hd => rfl); (case hg => rfl); (case hr => first | (go_simp; done) | (go_simp; rfl)); intro gb170 hg w36 hbox hb; have n0_ := Aside0.mk (blk_below (g := gb150) (o := .cells #[.int .u64 a2_0, .int .u64 a2_1, .int .u64 a2_2, .int .u64 a2_3, .int .i64 a2_4, .int .i64 a2_5] 36 (0, 0)) (by (with_reducible repeat (first | refine blk_drewN ?_ _ | refine blk_drew ?_ | refine blk_alloc ?_ _)); exact BK150.out) hb); have n1_ := Aside0.mk (blk_below (g := gb151) (o := .cells #[.int .u64 a3_0, .int .u64 a3_1, .int .u64 a3_2, .int .u64 a3_3, .int .i64 a3_4, .int .i64 a3_5] 36 (0, 0)) (by (with_reducible repeat (first | refine blk_drewN ?_ _ | refine blk_drew ?_ | refine blk_alloc ?_ _)); exact BK151.out) hb); have n2_ := Aside0.mk (below_step (by repeat (first | (with_reducible first | exact HB.out | apply below_alloc | apply pw_below_drewN | apply below_drew1 | refine below_set ?_ GE150.out | refine below_set ?_ GE151.out) | exact HB.out)) hb); have n3_ := Aside0.mk (hbox); have n4_ := Aside0.mk ((by rw [hg]; exact (below_size (by repeat (first | (with_reducible first | exact HB.out | apply below_alloc | apply pw_below_drewN | apply below_drew1 | refine below_set ?_ GE150.out | refine below_set ?_ GE151.out) | exact HB.out))) : w.heap.size ≤ gb170)); have n5_ := Aside0.mk ((by rw [hg]; exact (below_size (by repeat (first | (with_reducible first | exact HB.out | apply below_alloc | apply pw_below_drewN | apply below_drew1 | refine below_set ?_ GE150.out | refine below_set ?_ GE151.out) | exact HB.out))) : w.heap.size ≤ gb170)); have n6_ := Aside0.mk ((by rw [hg]; exact Nat.ne_of_lt (blk_lt (g := gb150) (o := .cells #[.int .u64 a2_0, .int .u64 a2_1, .int .u64 a2_2, .int .u64 a2_3, .int .i64 a2_4, .int .i64 a2_5] 36 (0, 0)) (by (with_reducible repeat (first | refine blk_drewN ?_ _ | refine blk_drew ?_ | refine blk_alloc ?_ _)); exact BK150.out)) : gb150 ≠ gb170)); have n7_ := Aside0.mk ((by rw [hg]; exact Nat.ne_of_gt (blk_lt (g := gb150) (o := .cells #[.int .u64 a2_0, .int .u64 a2_1, .int .u64 a2_2, .int .u64 a2_3, .int .i64 a2_4, .int .i64 a2_5] 36 (0, 0)) (by (with_reducible repeat (first | refine blk_drewN ?_ _ | refine blk_drew ?_ | refine blk_alloc ?_ _)); exact BK150.out)) : gb170 ≠ gb150)); have n8_ := Aside0.mk ((by rw [hg]; exact Nat.ne_of_lt (blk_lt (g := gb151) (o := .cells #[.int .u64 a3_0, .int .u64 a3_1, .int .u64 a3_2, .int .u64 a3_3, .int .i64 a3_4, .int .i64 a3_5] 36 (0, 0)) (by (with_reducible repeat (first | refine blk_drewN ?_ _ | refine blk_drew ?_ | refine blk_alloc ?_ _)); exact BK151.out)) : gb151 ≠ gb170)); have n9_ := Aside0.mk ((by rw [hg]; exact Nat.ne_of_gt (blk_lt (g := gb151) (o := .cells #[.int .u64 a3_0, .int .u64 a3_1, .int .u64 a3_2, .int .u64 a3_3, .int .i64 a3_4, .int .i64 a3_5] 36 (0, 0)) (by (with_reducible repeat (first | refine blk_drewN ?_ _ | refine blk_drew ?_ | refine blk_alloc ?_ _)); exact BK151.out)) : gb170 ≠ gb151)); clear BK150; clear BK151; clear HB; have BK150 := n0_; have BK151 := n1_; have HB := n2_; have BK170 := n3_; have GW170 := n4_; have GE170 := n5_; have NB150_170 := n6_; have NB170_150 := n7_; have NB151_170 := n8_; have NB170_151 := n9_; clear n0_ n1_ n2_ n3_ n4_ n5_ n6_ n7_ n8_ n9_; clear hb hbox hg) | ((with_reducible refine gate_dst (N := 16) rfl ?_); refine box_event ?hg (N := 16) ?hd (cs := #[.int .u64 0, .int .u64 0, .int .u64 0, .int .u64 0, .int .i64 0, .int .i64 0]) (t := 36) ?hr ?_; (case hd => rfl); (case hg => rfl); (case hr => first | (go_simp; done) | (go_simp; rfl)); intro gb171 hg w37 hbox hb; have n0_ := Aside0.mk (blk_below (g := gb150) (o := .cells #[.int .u64 a2_0, .int .u64 a2_1, .int .u64 a2_2, .int .u64 a2_3, .int .i64 a2_4, .int .i64 a2_5] 36 (0, 0)) (by (with_reducible repeat (first | refine blk_drewN ?_ _ | refine blk_drew ?_ | refine blk_alloc ?_ _)); exact BK150.out) hb); have n1_ := Aside0.mk (blk_below (g := gb151) (o := .cells #[.int .u64 a3_0, .int .u64 a3_1, .int .u64 a3_2, .int .u64 a3_3, .int .i64 a3_4, .int .i64 a3_5] 36 (0, 0)) (by (with_reducible repeat (first | refine blk_drewN ?_ _ | refine blk_drew ?_ | refine blk_alloc ?_ _)); exact BK151.out) hb); have n2_ := Aside0.mk (blk_below (g := gb170) (o := .cells #[.int .u64 0, .int .u64 0, .int .u64 0, .int .u64 0, .int .i64 0, .int .i64 0] 36 (0, 0)) (by (with_reducible repeat (first | refine blk_drewN ?_ _ | refine blk_drew ?_ | refine blk_alloc ?_ _)); exact BK170.out) hb); have n3_ := Aside0.mk (below_step (by repeat (first | (with_reducible first | exact HB.out | apply below_alloc | apply pw_below_drewN | apply below_drew1 | refine below_set ?_ GE150.out | refine below_set ?_ GE151.out | refine below_set ?_ GE170.out) | exact HB.out)) hb); have n4_ := Aside0.mk (hbox); have n5_ := Aside0.mk ((by rw [hg]; exact (below_size (by repeat (first | (with_reducible first | exact HB.out | apply below_alloc | apply pw_below_drewN | apply below_drew1 | refine below_set ?_ GE150.out | refine below_set ?_ GE151.out | refine below_set ?_ GE170.out) | exact HB.out))) : w.heap.size ≤ gb171)); have n6_ := Aside0.mk ((by rw [hg]; exact (below_size (by repeat (first | (with_reducible first | exact HB.out | apply below_alloc | apply pw_below_drewN | apply below_drew1 | refine below_set ?_ GE150.out | refine below_set ?_ GE151.out | refine below_set ?_ GE170.out) | exact HB.out))) : w.heap.size ≤ gb171)); have n7_ := Aside0.mk ((by rw [hg]; exact Nat.ne_of_lt (blk_lt (g := gb150) (o := .cells #[.int .u64 a2_0, .int .u64 a2_1, .int .u64 a2_2, .int .u64 a2_3, .int .i64 a2_4, .int .i64 a2_5] 36 (0, 0)) (by (with_reducible repeat (first | refine blk_drewN ?_ _ | refine blk_drew ?_ | refine blk_alloc ?_ _)); exact BK150.out)) : gb150 ≠ gb171)); have n8_ := Aside0.mk ((by rw [hg]; exact Nat.ne_of_gt (blk_lt (g := gb150) (o := .cells #[.int .u64 a2_0, .int .u64 a2_1, .int .u64 a2_2, .int .u64 a2_3, .int .i64 a2_4, .int .i64 a2_5] 36 (0, 0)) (by (with_reducible repeat (first | refine blk_drewN ?_ _ | refine blk_drew ?_ | refine blk_alloc ?_ _)); exact BK150.out)) : gb171 ≠ gb150)); have n9_ := Aside0.mk ((by rw [hg]; exact Nat.ne_of_lt (blk_lt (g := gb151) (o := .cells #[.int .u64 a3_0, .int .u64 a3_1, .int .u64 a3_2, .int .u64 a3_3, .int .i64 a3_4, .int .i64 a3_5] 36 (0, 0)) (by (with_reducible repeat (first | refine blk_drewN ?_ _ | refine blk_drew ?_ | refine blk_alloc ?_ _)); exact BK151.out)) : gb151 ≠ gb171)); have n10_ := Aside0.mk ((by rw [hg]; exact Nat.ne_of_gt (blk_lt (g := gb151) (o := .cells #[.int .u64 a3_0, .int .u64 a3_1, .int .u64 a3_2, .int .u64 a3_3, .int .i64 a3_4, .int .i64 a3_5] 36 (0, 0)) (by (with_reducible repeat (first | refine blk_drewN ?_ _ | refine blk_drew ?_ | refine blk_alloc ?_ _)); exact BK151.out)) : gb171 ≠ gb151)); have n11_ := Aside0.mk ((by rw [hg]; exact Nat.ne_of_lt (blk_lt (g := gb170) (o := .cells #[.int .u64 0, .int .u64 0, .int .u64 0, .int .u64 0, .int .i64 0, .int .i64 0] 36 (0, 0)) (by (with_reducible repeat (first | refine blk_drewN ?_ _ | refine blk_drew ?_ | refine blk_alloc ?_ _)); exact BK170.out)) : gb170 ≠ gb171)); have n12_ := Aside0.mk ((by rw [hg]; exact Nat.ne_of_gt (blk_lt (g := gb170) (o := .cells #[.int .u64 0, .int .u64 0, .int .u64 0, .int .u64 0, .int .i64 0, .int .i64 0] 36 (0, 0)) (by (with_reducible repeat (first | refine blk_drewN ?_ _ | refine blk_drew ?_ | refine blk_alloc ?_ _)); exact BK170.out)) : gb171 ≠ gb170)); clear BK150; clear BK151; clear BK170; clear HB; have BK150 := n0_; have BK151 := n1_; have BK170 := n2_; have HB := n3_; have BK171 := n4_; have GW171 := n5_; have GE171 := n6_; have NB150_171 := n7_; have NB171_150 := n8_; have NB151_171 := n9_; have NB171_151 := n10_; have NB170_171 := n11_; have NB171_170 := n12_; clear n0_ n1_ n2_ n3_ n4_ n5_ n6_ n7_ n8_ n9_ n10_ n11_ n12_; clear hb hbox hg; have hnb38 := NB170_150.out; have hnc38 := NB150_170.out; have hnb39 := NB170_151.out; have hnc39 := NB151_170.out; have hnb40 := NB170_171.out; have hnc40 := NB171_170.out; have hcz41_0 : w37.cell? ⟨gb170, 0, none⟩ = some (.int .u64 0) := (blk_cell BK170.out 0).trans rfl; have hcz41_1 : w37.cell? ⟨gb170, 1, none⟩ = some (.int .u64 0) := (blk_cell BK170.out 1).trans rfl; have hcz41_2 : w37.cell? ⟨gb170, 2, none⟩ = some (.int .u64 0) := (blk_cell BK170.out 2).trans rfl; have hcz41_3 : w37.cell? ⟨gb170, 3, none⟩ = some (.int .u64 0) := (blk_cell BK170.out 3).trans rfl; have hcz41_4 : w37.cell? ⟨gb170, 4, none⟩ = some (.int .i64 0) := (blk_cell BK170.out 4).trans rfl; have hcz41_5 : w37.cell? ⟨gb170, 5, none⟩ = some (.int .i64 0) := (blk_cell BK170.out 5).trans rfl; have hfz41_0 := blk_frozen BK170.out 0; have hfz41_1 := blk_frozen BK170.out 1; have hfz41_2 := blk_frozen BK170.out 2; have hfz41_3 := blk_frozen BK170.out 3; have hfz41_4 := blk_frozen BK170.out 4; have hfz41_5 := blk_frozen BK170.out 5; have hnb42 := NB171_150.out; have hnc42 := NB150_171.out; have hnb43 := NB171_151.out; have hnc43 := NB151_171.out; have hcz44_0 : w37.cell? ⟨gb171, 0, none⟩ = some (.int .u64 0) := (blk_cell BK171.out 0).trans rfl; have hcz44_1 : w37.cell? ⟨gb171, 1, none⟩ = some (.int .u64 0) := (blk_cell BK171.out 1).trans rfl; have hcz44_2 : w37.cell? ⟨gb171, 2, none⟩ = some (.int .u64 0) := (blk_cell BK171.out 2).trans rfl; have hcz44_3 : w37.cell? ⟨gb171, 3, none⟩ = some (.int .u64 0) := (blk_cell BK171.out 3).trans rfl; have hcz44_4 : w37.cell? ⟨gb171, 4, none⟩ = some (.int .i64 0) := (blk_cell BK171.out 4).trans rfl; have hcz44_5 : w37.cell? ⟨gb171, 5, none⟩ = some (.int .i64 0) := (blk_cell BK171.out 5).trans rfl; have hfz44_0 := blk_frozen BK171.out 0; have hfz44_1 := blk_frozen BK171.out 1; have hfz44_2 := blk_frozen BK171.out 2; have hfz44_3 := blk_frozen BK171.out 3; have hfz44_4 := blk_frozen BK171.out 4; have hfz44_5 := blk_frozen BK171.out 5) | (go_at_call 26; (with_reducible refine (halberdref07_Has.calls kj9 t157 t158 t159 t160 t161 t162 a4 true _ A29.out).mono ?_); rintro e w45 ⟨rfl, hb⟩; have n0_ := Aside0.mk (blk_below (g := gb150) (o := .cells #[.int .u64 a2_0, .int .u64 a2_1, .int .u64 a2_2, .int .u64 a2_3, .int .i64 a2_4, .int .i64 a2_5] 36 (0, 0)) (by (with_reducible repeat (first | refine blk_drewN ?_ _ | refine blk_drew ?_ | refine blk_alloc ?_ _)); refine blk_far ?_ NB150_171.out _; (with_reducible repeat (first | refine blk_drewN ?_ _ | refine blk_drew ?_ | refine blk_alloc ?_ _)); refine blk_far ?_ NB150_171.out _; (with_reducible repeat (first | refine blk_drewN ?_ _ | refine blk_drew ?_ | refine blk_alloc ?_ _)); refine blk_far ?_ NB150_171.out _; (with_reducible repeat (first | refine blk_drewN ?_ _ | refine blk_drew ?_ | refine blk_alloc ?_ _)); refine blk_far ?_ NB150_171.out _; (with_reducible repeat (first | refine blk_drewN ?_ _ | refine blk_drew ?_ | refine blk_alloc ?_ _)); refine blk_far ?_ NB150_171.out _; (with_reducible repeat (first | refine blk_drewN ?_ _ | refine blk_drew ?_ | refine blk_alloc ?_ _)); refine blk_far ?_ NB150_171.out _; (with_reducible repeat (first | refine blk_drewN ?_ _ | refine blk_drew ?_ | refine blk_alloc ?_ _)); refine blk_far ?_ NB150_170.out _; (with_reducible repeat (first | refine blk_drewN ?_ _ | refine blk_drew ?_ | refine blk_alloc ?_ _)); refine blk_far ?_ NB150_170.out _; (with_reducible repeat (first | refine blk_drewN ?_ _ | refine blk_drew ?_ | refine blk_alloc ?_ _)); refine blk_far ?_ NB150_170.out _; (with_reducible repeat (first | refine blk_drewN ?_ _ | refine blk_drew ?_ | refine blk_alloc ?_ _)); refine blk_far ?_ NB150_170.out _; (with_reducible repeat (first | refine blk_drewN ?_ _ | refine blk_drew ?_ | refine blk_alloc ?_ _)); refine blk_far ?_ NB150_170.out _; (with_reducible repeat (first | refine blk_drewN ?_ _ | refine blk_drew ?_ | refine blk_alloc ?_ _)); refine blk_far ?_ NB150_170.out _; (with_reducible repeat (first | refine blk_drewN ?_ _ | refine blk_drew ?_ | refine blk_alloc ?_ _)); exact BK150.out) hb); have n1_ := Aside0.mk (blk_below (g := gb151) (o := .cells #[.int .u64 a3_0, .int .u64 a3_1, .int .u64 a3_2, .int .u64 a3_3, .int .i64 a3_4, .int .i64 a3_5] 36 (0, 0)) (by (with_reducible repeat (first | refine blk_drewN ?_ _ | refine blk_drew ?_ | refine blk_alloc ?_ _)); refine blk_far ?_ NB151_171.out _; (with_reducible repeat (first | refine blk_drewN ?_ _ | refine blk_drew ?_ | refine blk_alloc ?_ _)); refine blk_far ?_ NB151_171.out _; (with_reducible repeat (first | refine blk_drewN ?_ _ | refine blk_drew ?_ | refine blk_alloc ?_ _)); refine blk_far ?_ NB151_171.out _; (with_reducible repeat (first | refine blk_drewN ?_ _ | refine blk_drew ?_ | refine blk_alloc ?_ _)); refine blk_far ?_ NB151_171.out _; (with_reducible repeat (first | refine blk_drewN ?_ _ | refine blk_drew ?_ | refine blk_alloc ?_ _)); refine blk_far ?_ NB151_171.out _; (with_reducible repeat (first | refine blk_drewN ?_ _ | refine blk_drew ?_ | refine blk_alloc ?_ _)); refine blk_far ?_ NB151_171.out _; (with_reducible repeat (first | refine blk_drewN ?_ _ | refine blk_drew ?_ | refine blk_alloc ?_ _)); refine blk_far ?_ NB151_170.out _; (with_reducible repeat (first | refine blk_drewN ?_ _ | refine blk_drew ?_ | refine blk_alloc ?_ _)); refine blk_far ?_ NB151_170.out _; (with_reducible repeat (first | refine blk_drewN ?_ _ | refine blk_drew ?_ | refine blk_alloc ?_ _)); refine blk_far ?_ NB151_170.out _; (with_reducible repeat (first | refine blk_drewN ?_ _ | refine blk_drew ?_ | refine blk_alloc ?_ _)); refine blk_far ?_ NB151_170.out _; (with_reducible repeat (first | refine blk_drewN ?_ _ | refine blk_drew ?_ | refine blk_alloc ?_ _)); refine blk_far ?_ NB151_170.out _; (with_reducible repeat (first | refine blk_drewN ?_ _ | refine blk_drew ?_ | refine blk_alloc ?_ _)); refine blk_far ?_ NB151_170.out _; (with_reducible repeat (first | refine blk_drewN ?_ _ | refine blk_drew ?_ | refine blk_alloc ?_ _)); exact BK151.out) hb); have n2_ := Aside0.mk (blk_below (g := gb170) (o := .cells #[.int .u64 t157, .int .u64 t158, .int .u64 t159, .int .u64 t160, .int .i64 t161, .int .i64 t162] 36 (0, 0)) (by (with_reducible repeat (first | refine blk_drewN ?_ _ | refine blk_drew ?_ | refine blk_alloc ?_ _)); refine blk_far ?_ NB170_171.out _; (with_reducible repeat (first | refine blk_drewN ?_ _ | refine blk_drew ?_ | refine blk_alloc ?_ _)); refine blk_far ?_ NB170_171.out _; (with_reducible repeat (first | refine blk_drewN ?_ _ | refine blk_drew ?_ | refine blk_alloc ?_ _)); refine blk_far ?_ NB170_171.out _; (with_reducible repeat (first | refine blk_drewN ?_ _ | refine blk_drew ?_ | refine blk_alloc ?_ _)); refine blk_far ?_ NB170_171.out _; (with_reducible repeat (first | refine blk_drewN ?_ _ | refine blk_drew ?_ | refine blk_alloc ?_ _)); refine blk_far ?_ NB170_171.out _; (with_reducible repeat (first | refine blk_drewN ?_ _ | refine blk_drew ?_ | refine blk_alloc ?_ _)); refine blk_far ?_ NB170_171.out _; (with_reducible repeat (first | refine blk_drewN ?_ _ | refine blk_drew ?_ | refine blk_alloc ?_ _)); refine blk_put (cs := #[.int .u64 t157, .int .u64 t158, .int .u64 t159, .int .u64 t160, .int .i64 t161, .int .i64 0]) ?_ 5 _ rfl; (with_reducible repeat (first | refine blk_drewN ?_ _ | refine blk_drew ?_ | refine blk_alloc ?_ _)); refine blk_put (cs := #[.int .u64 t157, .int .u64 t158, .int .u64 t159, .int .u64 t160, .int .i64 0, .int .i64 0]) ?_ 4 _ rfl; (with_reducible repeat (first | refine blk_drewN ?_ _ | refine blk_drew ?_ | refine blk_alloc ?_ _)); refine blk_put (cs := #[.int .u64 t157, .int .u64 t158, .int .u64 t159, .int .u64 0, .int .i64 0, .int .i64 0]) ?_ 3 _ rfl; (with_reducible repeat (first | refine blk_drewN ?_ _ | refine blk_drew ?_ | refine blk_alloc ?_ _)); refine blk_put (cs := #[.int .u64 t157, .int .u64 t158, .int .u64 0, .int .u64 0, .int .i64 0, .int .i64 0]) ?_ 2 _ rfl; (with_reducible repeat (first | refine blk_drewN ?_ _ | refine blk_drew ?_ | refine blk_alloc ?_ _)); refine blk_put (cs := #[.int .u64 t157, .int .u64 0, .int .u64 0, .int .u64 0, .int .i64 0, .int .i64 0]) ?_ 1 _ rfl; (with_reducible repeat (first | refine blk_drewN ?_ _ | refine blk_drew ?_ | refine blk_alloc ?_ _)); refine blk_put (cs := #[.int .u64 0, .int .u64 0, .int .u64 0, .int .u64 0, .int .i64 0, .int .i64 0]) ?_ 0 _ rfl; (with_reducible repeat (first | refine blk_drewN ?_ _ | refine blk_drew ?_ | refine blk_alloc ?_ _)); exact BK170.out) hb); have n3_ := Aside0.mk (blk_below (g := gb171) (o := .cells #[.int .u64 t163, .int .u64 t164, .int .u64 t165, .int .u64 t166, .int .i64 t167, .int .i64 t168] 36 (0, 0)) (by (with_reducible repeat (first | refine blk_drewN ?_ _ | refine blk_drew ?_ | refine blk_alloc ?_ _)); refine blk_put (cs := #[.int .u64 t163, .int .u64 t164, .int .u64 t165, .int .u64 t166, .int .i64 t167, .int .i64 0]) ?_ 5 _ rfl; (with_reducible repeat (first | refine blk_drewN ?_ _ | refine blk_drew ?_ | refine blk_alloc ?_ _)); refine blk_put (cs := #[.int .u64 t163, .int .u64 t164, .int .u64 t165, .int .u64 t166, .int .i64 0, .int .i64 0]) ?_ 4 _ rfl; (with_reducible repeat (first | refine blk_drewN ?_ _ | refine blk_drew ?_ | refine blk_alloc ?_ _)); refine blk_put (cs := #[.int .u64 t163, .int .u64 t164, .int .u64 t165, .int .u64 0, .int .i64 0, .int .i64 0]) ?_ 3 _ rfl; (with_reducible repeat (first | refine blk_drewN ?_ _ | refine blk_drew ?_ | refine blk_alloc ?_ _)); refine blk_put (cs := #[.int .u64 t163, .int .u64 t164, .int .u64 0, .int .u64 0, .int .i64 0, .int .i64 0]) ?_ 2 _ rfl; (with_reducible repeat (first | refine blk_drewN ?_ _ | refine blk_drew ?_ | refine blk_alloc ?_ _)); refine blk_put (cs := #[.int .u64 t163, .int .u64 0, .int .u64 0, .int .u64 0, .int .i64 0, .int .i64 0]) ?_ 1 _ rfl; (with_reducible repeat (first | refine blk_drewN ?_ _ | refine blk_drew ?_ | refine blk_alloc ?_ _)); refine blk_put (cs := #[.int .u64 0, .int .u64 0, .int .u64 0, .int .u64 0, .int .i64 0, .int .i64 0]) ?_ 0 _ rfl; (with_reducible repeat (first | refine blk_drewN ?_ _ | refine blk_drew ?_ | refine blk_alloc ?_ _)); refine blk_far ?_ NB171_170.out _; (with_reducible repeat (first | refine blk_drewN ?_ _ | refine blk_drew ?_ | refine blk_alloc ?_ _)); refine blk_far ?_ NB171_170.out _; (with_reducible repeat (first | refine blk_drewN ?_ _ | refine blk_drew ?_ | refine blk_alloc ?_ _)); refine blk_far ?_ NB171_170.out _; (with_reducible repeat (first | refine blk_drewN ?_ _ | refine blk_drew ?_ | refine blk_alloc ?_ _)); refine blk_far ?_ NB171_170.out _; (with_reducible repeat (first | refine blk_drewN ?_ _ | refine blk_drew ?_ | refine blk_alloc ?_ _)); refine blk_far ?_ NB171_170.out _; (with_reducible repeat (first | refine blk_drewN ?_ _ | refine blk_drew ?_ | refine blk_alloc ?_ _)); refine blk_far ?_ NB171_170.out _; (with_reducible repeat (first | refine blk_drewN ?_ _ | refine blk_drew ?_ | refine blk_alloc ?_ _)); exact BK171.out) hb); have n4_ := Aside0.mk (below_step (by repeat (first | (with_reducible first | exact HB.out | apply below_alloc | apply pw_below_drewN | apply below_drew1 | refine below_set ?_ GE150.out | refine below_set ?_ GE151.out | refine below_set ?_ GE170.out | refine below_set ?_ GE171.out) | exact HB.out)) hb); clear BK150; clear BK151; clear BK170; clear BK171; clear HB; have BK150 := n0_; have BK151 := n1_; have BK170 := n2_; have BK171 := n3_; have HB := n4_; clear n0_ n1_ n2_ n3_ n4_; (try clear hb); (try clear hb2); (try clear hk); (try clear hi); have hcz46_0 : w45.cell? ⟨gb171, 0, none⟩ = some (.int .u64 t163) := (blk_cell BK171.out 0).trans rfl; have hcz46_1 : w45.cell? ⟨gb171, 1, none⟩ = some (.int .u64 t164) := (blk_cell BK171.out 1).trans rfl; have hcz46_2 : w45.cell? ⟨gb171, 2, none⟩ = some (.int .u64 t165) := (blk_cell BK171.out 2).trans rfl; have hcz46_3 : w45.cell? ⟨gb171, 3, none⟩ = some (.int .u64 t166) := (blk_cell BK171.out 3).trans rfl; have hcz46_4 : w45.cell? ⟨gb171, 4, none⟩ = some (.int .i64 t167) := (blk_cell BK171.out 4).trans rfl; have hcz46_5 : w45.cell? ⟨gb171, 5, none⟩ = some (.int .i64 t168) := (blk_cell BK171.out 5).trans rfl; have hfz46_0 := blk_frozen BK171.out 0; have hfz46_1 := blk_frozen BK171.out 1; have hfz46_2 := blk_frozen BK171.out 2; have hfz46_3 := blk_frozen BK171.out 3; have hfz46_4 := blk_frozen BK171.out 4; have hfz46_5 := blk_frozen BK171.out 5) | (go_at_call 26; (with_reducible refine (halberdref07_Has.calls kj9 t163 t164 t165 t166 t167 t168 a5 t173 _ A31.out).mono ?_); rintro e w47 ⟨rfl, hb⟩; have n0_ := Aside0.mk (blk_below (g := gb150) (o := .cells #[.int .u64 a2_0, .int .u64 a2_1, .int .u64 a2_2, .int .u64 a2_3, .int .i64 a2_4, .int .i64 a2_5] 36 (0, 0)) (by (with_reducible repeat (first | refine blk_drewN ?_ _ | refine blk_drew ?_ | refine blk_alloc ?_ _)); exact BK150.out) hb); have n1_ := Aside0.mk (blk_below (g := gb151) (o := .cells #[.int .u64 a3_0, .int .u64 a3_1, .int .u64 a3_2, .int .u64 a3_3, .int .i64 a3_4, .int .i64 a3_5] 36 (0, 0)) (by (with_reducible repeat (first | refine blk_drewN ?_ _ | refine blk_drew ?_ | refine blk_alloc ?_ _)); exact BK151.out) hb); have n2_ := Aside0.mk (blk_below (g := gb170) (o := .cells #[.int .u64 t157, .int .u64 t158, .int .u64 t159, .int .u64 t160, .int .i64 t161, .int .i64 t162] 36 (0, 0)) (by (with_reducible repeat (first | refine blk_drewN ?_ _ | refine blk_drew ?_ | refine blk_alloc ?_ _)); exact BK170.out) hb); have n3_ := Aside0.mk (blk_below (g := gb171) (o := .cells #[.int .u64 t163, .int .u64 t164, .int .u64 t165, .int .u64 t166, .int .i64 t167, .int .i64 t168] 36 (0, 0)) (by (with_reducible repeat (first | refine blk_drewN ?_ _ | refine blk_drew ?_ | refine blk_alloc ?_ _)); exact BK171.out) hb); have n4_ := Aside0.mk (below_step (by repeat (first | (with_reducible first | exact HB.out | apply below_alloc | apply pw_below_drewN | apply below_drew1 | refine below_set ?_ GE150.out | refine below_set ?_ GE151.out | refine below_set ?_ GE170.out | refine below_set ?_ GE171.out) | exact HB.out)) hb); clear BK150; clear BK151; clear BK170; clear BK171; clear HB; have BK150 := n0_; have BK151 := n1_; have BK170 := n2_; have BK171 := n3_; have HB := n4_; clear n0_ n1_ n2_ n3_ n4_; (try clear hb); (try clear hb2); (try clear hk); (try clear hi)) | (go_at_call 34; (with_reducible refine (narrow_Way.calls kj9 a0 a1 a2_0 a2_1 a2_2 a2_3 a2_4 a2_5 a3_0 a3_1 a3_2 a3_3 a3_4 a3_5 t153 t157 t158 t159 t160 t161 t162 t163 t164 t165 t166 t167 t168 true _ A27.out).mono ?_); rintro e w35 ⟨rfl, hb⟩; have n0_ := Aside0.mk (blk_below (g := gb150) (o := .cells #[.int .u64 a2_0, .int .u64 a2_1, .int .u64 a2_2, .int .u64 a2_3, .int .i64 a2_4, .int .i64 a2_5] 36 (0, 0)) (by (with_reducible repeat (first | refine blk_drewN ?_ _ | refine blk_drew ?_ | refine blk_alloc ?_ _)); exact BK150.out) hb); have n1_ := Aside0.mk (blk_below (g := gb151) (o := .cells #[.int .u64 a3_0, .int .u64 a3_1, .int .u64 a3_2, .int .u64 a3_3, .int .i64 a3_4, .int .i64 a3_5] 36 (0, 0)) (by (with_reducible repeat (first | refine blk_drewN ?_ _ | refine blk_drew ?_ | refine blk_alloc ?_ _)); exact BK151.out) hb); have n2_ := Aside0.mk (below_step (by repeat (first | (with_reducible first | exact HB.out | apply below_alloc | apply pw_below_drewN | apply below_drew1 | refine below_set ?_ GE150.out | refine below_set ?_ GE151.out) | exact HB.out)) hb); clear BK150; clear BK151; clear HB; have BK150 := n0_; have BK151 := n1_; have HB := n2_; clear n0_ n1_ n2_; (try clear hb); (try clear hb2); (try clear hk); (try clear hi)))
       go_ret
       exact ⟨by first | rfl | (simp [errW_none, errW_some] <;> rfl) | (simp [*, errW_none, errW_some] <;> rfl), by repeat (first | (with_reducible first | exact HB.out | apply below_alloc | apply pw_below_drewN | apply below_drew1 | refine below_set ?_ GE150.out | refine below_set ?_ GE151.out | refine below_set ?_ GE170.out | refine below_set ?_ GE171.out) | exact HB.out)⟩
      ·replace c30 := Bool.eq_false_iff.mpr c30
       subst c30
       have H1 : (some false) = some r := by rw [if_neg (show ¬ (false = true) by decide)] at H; exact H
       clear H
       have H := H1
       clear H1
       exact absurd (Option.some.inj H) (by rw [hr_.out]; decide)
     ·replace c28 := Bool.eq_false_iff.mpr c28
      subst c28
      have H1 : (some false) = some r := by rw [if_neg (show ¬ (false = true) by decide)] at H; exact H
      clear H
      have H := H1
      clear H1
      exact absurd (Option.some.inj H) (by rw [hr_.out]; decide)
 ·replace c8 := Bool.eq_false_iff.mpr c8
  subst c8
  have H1 : (some false) = some r := by rw [if_neg (show ¬ (false = true) by decide)] at H; exact H
  clear H
  have H := H1
  clear H1
  exact absurd (Option.some.inj H) (by rw [hr_.out]; decide)

/-- THE ONE PURE STATEMENT of halberdlaw09_NarrowSound. -/
def halberdlaw09_NarrowSound.Pure : Prop := ∀ (a0 : Int) (a1 : Bool) (a2_0 : Int) (a2_1 : Int) (a2_2 : Int) (a2_3 : Int) (a2_4 : Int) (a2_5 : Int) (a3_0 : Int) (a3_1 : Int) (a3_2 : Int) (a3_3 : Int) (a3_4 : Int) (a3_5 : Int) (a4 : Int) (a5 : Int), ((Lit.int .u8 a0).wf = true) → ((((Lit.int .u64 a2_0).wf = true) ∧ ((Lit.int .u64 a2_1).wf = true)) ∧ ((Lit.int .u64 a2_2).wf = true) ∧ ((Lit.int .u64 a2_3).wf = true) ∧ ((Lit.int .i64 a2_4).wf = true) ∧ ((Lit.int .i64 a2_5).wf = true)) → ((((Lit.int .u64 a3_0).wf = true) ∧ ((Lit.int .u64 a3_1).wf = true)) ∧ ((Lit.int .u64 a3_2).wf = true) ∧ ((Lit.int .u64 a3_3).wf = true) ∧ ((Lit.int .i64 a3_4).wf = true) ∧ ((Lit.int .i64 a3_5).wf = true)) → ((Lit.int .u64 a4).wf = true) → ((Lit.int .u64 a5).wf = true) → ∃ k, halberdlaw09_NarrowSound.f k a0 a1 a2_0 a2_1 a2_2 a2_3 a2_4 a2_5 a3_0 a3_1 a3_2 a3_3 a3_4 a3_5 a4 a5 = some true

end Go.Proofs.Ytdojdjafleaedaa.PNarrowSound
