/- Functions of the program that some laws reach, as Lean functions, and proofs that the program's calls come to what they say: written by a program, for the texts that import it; each theorem bears its own conditions. -/
import Derived.Test.YtdojdjafleaedaaPNumSoundx0
import Derived.Test.YtdojdjafleaedaaPNumSoundx2
import Derived.Test.YtdojdjafleaedaaPNumSoundx3
namespace Go.Proofs.Ytdojdjafleaedaa.PNumSound
open Go.RowKit Go.Proofs.YtdojdjafleaedaaW.PrintWords Go.Proofs.YtdojdjafleaedaaW.PrintLast Go.Proofs.YtdojdjafleaedaaW.PrintMore
attribute [local go_sem] max2_int min2_int max_two min_two max_three min_three max_four min_four   -- for this text's walks alone
set_option linter.unusedVariables false
set_option linter.unusedSimpArgs false

/-! ### halberdlaw07_NumSound: function 8 -/
mutual
def halberdlaw07_NumSound.j0 : Nat → Int → Int → Bool → Bool → Bool → Int → Int → Int → Int → Int → Int → Int → Int → Int → Int → Int → Int → Int → Int → Int → Int → Int → Int → Option (Bool)
  | 0, _, _, _, _, _, _, _, _, _, _, _, _, _, _, _, _, _, _, _, _, _, _, _ => none
  | k + 1, x2, x3, x10, x12, x35, x230000, x230001, x230002, x230003, x230004, x230005, x231000, x231001, x231002, x231003, x231004, x231005, x248000, x248001, x248002, x248003, x248004, x248005 => if x35 = true then (some false) else ((num_Has.f x230000 x230001 x230002 x230003 x230004 x230005 x2).bind fun t250 => (if t250 = true then (if x10 = true then ((num_Cut.f k x230000 x230001 x230002 x230003 x230004 x230005 x3).bind fun bt251 => ((halberdref01_Zext.f k x2 x3).bind fun t257 => ((num_Has.f bt251.1 bt251.2.1 bt251.2.2.1 bt251.2.2.2.1 bt251.2.2.2.2.1 bt251.2.2.2.2.2 t257).bind fun t258 => (halberdlaw07_NumSound.j1 k x2 x12 (!t258) x231000 x231001 x231002 x231003 x231004 x231005 x248000 x248001 x248002 x248003 x248004 x248005)))) else (halberdlaw07_NumSound.j1 k x2 x12 true x231000 x231001 x231002 x231003 x231004 x231005 x248000 x248001 x248002 x248003 x248004 x248005)) else (some true)))
def halberdlaw07_NumSound.j1 : Nat → Int → Bool → Bool → Int → Int → Int → Int → Int → Int → Int → Int → Int → Int → Int → Int → Option (Bool)
  | 0, _, _, _, _, _, _, _, _, _, _, _, _, _, _, _ => none
  | k + 1, x2, x12, x51, x231000, x231001, x231002, x231003, x231004, x231005, x248000, x248001, x248002, x248003, x248004, x248005 => if x51 = true then (some false) else ((num_Has.f x231000 x231001 x231002 x231003 x231004 x231005 x2).bind fun t259 => (if t259 = true then (if x12 = true then ((num_Has.f x248000 x248001 x248002 x248003 x248004 x248005 x2).bind fun t260 => (some t260)) else (some false)) else (some true)))
end
def halberdlaw07_NumSound.f (k : Nat) (a0_0 : Int) (a0_1 : Int) (a0_2 : Int) (a0_3 : Int) (a0_4 : Int) (a0_5 : Int) (a1_0 : Int) (a1_1 : Int) (a1_2 : Int) (a1_3 : Int) (a1_4 : Int) (a1_5 : Int) (a2 : Int) (a3 : Int) : Option (Bool) := (halberdlaw07_alive.f k).bind fun t231 => (if t231 = true then ((num_Refine.f a0_0 a0_1 a0_2 a0_3 a0_4 a0_5).bind fun bt232 => ((num_Meet.f a0_0 a0_1 a0_2 a0_3 a0_4 a0_5 a1_0 a1_1 a1_2 a1_3 a1_4 a1_5).bind fun bt240 => (if bt232.2.2.2.2.2.2 = true then ((num_Has.f bt232.1 bt232.2.1 bt232.2.2.1 bt232.2.2.2.1 bt232.2.2.2.2.1 bt232.2.2.2.2.2.1 a2).bind fun t248 => ((num_Has.f a0_0 a0_1 a0_2 a0_3 a0_4 a0_5 a2).bind fun t249 => (halberdlaw07_NumSound.j0 k a2 a3 bt232.2.2.2.2.2.2 bt240.2.2.2.2.2.2 (t248 != t249) a0_0 a0_1 a0_2 a0_3 a0_4 a0_5 a1_0 a1_1 a1_2 a1_3 a1_4 a1_5 bt240.1 bt240.2.1 bt240.2.2.1 bt240.2.2.2.1 bt240.2.2.2.2.1 bt240.2.2.2.2.2.1))) else (halberdlaw07_NumSound.j0 k a2 a3 bt232.2.2.2.2.2.2 bt240.2.2.2.2.2.2 false a0_0 a0_1 a0_2 a0_3 a0_4 a0_5 a1_0 a1_1 a1_2 a1_3 a1_4 a1_5 bt240.1 bt240.2.1 bt240.2.2.1 bt240.2.2.2.1 bt240.2.2.2.2.1 bt240.2.2.2.2.2.1)))) else (some false))
theorem halberdlaw07_NumSound.mono_l : ∀ k, (∀ y0 y1 y2 y3 y4 y5 y6 y7 y8 y9 y10 y11 y12 y13 y14 y15 y16 y17 y18 y19 y20 y21 y22, LeO (halberdlaw07_NumSound.j0 k y0 y1 y2 y3 y4 y5 y6 y7 y8 y9 y10 y11 y12 y13 y14 y15 y16 y17 y18 y19 y20 y21 y22) (halberdlaw07_NumSound.j0 (k + 1) y0 y1 y2 y3 y4 y5 y6 y7 y8 y9 y10 y11 y12 y13 y14 y15 y16 y17 y18 y19 y20 y21 y22)) ∧ (∀ y0 y1 y2 y3 y4 y5 y6 y7 y8 y9 y10 y11 y12 y13 y14, LeO (halberdlaw07_NumSound.j1 k y0 y1 y2 y3 y4 y5 y6 y7 y8 y9 y10 y11 y12 y13 y14) (halberdlaw07_NumSound.j1 (k + 1) y0 y1 y2 y3 y4 y5 y6 y7 y8 y9 y10 y11 y12 y13 y14))
  | 0 => ⟨fun _ _ _ _ _ _ _ _ _ _ _ _ _ _ _ _ _ _ _ _ _ _ _ r h => by simp [halberdlaw07_NumSound.j0] at h, fun _ _ _ _ _ _ _ _ _ _ _ _ _ _ _ r h => by simp [halberdlaw07_NumSound.j1] at h⟩
  | k + 1 => by
    obtain ⟨ih0, ih1⟩ := halberdlaw07_NumSound.mono_l k
    refine ⟨?_, ?_⟩
    · intro y0 y1 y2 y3 y4 y5 y6 y7 y8 y9 y10 y11 y12 y13 y14 y15 y16 y17 y18 y19 y20 y21 y22
      unfold halberdlaw07_NumSound.j0
      repeat' first
      | (with_reducible exact ih0 _ _ _ _ _ _ _ _ _ _ _ _ _ _ _ _ _ _ _ _ _ _ _)
      | (with_reducible exact ih1 _ _ _ _ _ _ _ _ _ _ _ _ _ _ _)
      | (with_reducible exact halberdlaw07_alive.mono _)
      | (with_reducible exact halberdref01_Zext.mono _ _ _)
      | (with_reducible exact num_Cut.mono _ _ _ _ _ _ _ _)
      | (with_reducible exact LeO.refl _)
      | (with_reducible exact LeO.none _)
      | (with_reducible refine LeO.ite ?_ ?_)
      | (with_reducible refine LeO.bind ?_ (fun _ => ?_))
      | exact ih0 _ _ _ _ _ _ _ _ _ _ _ _ _ _ _ _ _ _ _ _ _ _ _
      | exact ih1 _ _ _ _ _ _ _ _ _ _ _ _ _ _ _
      | exact halberdlaw07_alive.mono _
      | exact halberdref01_Zext.mono _ _ _
      | exact num_Cut.mono _ _ _ _ _ _ _ _
      | exact LeO.none _
      | refine LeO.ite ?_ ?_
      | refine LeO.bind ?_ (fun _ => ?_)
    · intro y0 y1 y2 y3 y4 y5 y6 y7 y8 y9 y10 y11 y12 y13 y14
      unfold halberdlaw07_NumSound.j1
      repeat' first
      | (with_reducible exact ih0 _ _ _ _ _ _ _ _ _ _ _ _ _ _ _ _ _ _ _ _ _ _ _)
      | (with_reducible exact ih1 _ _ _ _ _ _ _ _ _ _ _ _ _ _ _)
      | (with_reducible exact halberdlaw07_alive.mono _)
      | (with_reducible exact halberdref01_Zext.mono _ _ _)
      | (with_reducible exact num_Cut.mono _ _ _ _ _ _ _ _)
      | (with_reducible exact LeO.refl _)
      | (with_reducible exact LeO.none _)
      | (with_reducible refine LeO.ite ?_ ?_)
      | (with_reducible refine LeO.bind ?_ (fun _ => ?_))
      | exact ih0 _ _ _ _ _ _ _ _ _ _ _ _ _ _ _ _ _ _ _ _ _ _ _
      | exact ih1 _ _ _ _ _ _ _ _ _ _ _ _ _ _ _
      | exact halberdlaw07_alive.mono _
      | exact halberdref01_Zext.mono _ _ _
      | exact num_Cut.mono _ _ _ _ _ _ _ _
      | exact LeO.none _
      | refine LeO.ite ?_ ?_
      | refine LeO.bind ?_ (fun _ => ?_)
theorem halberdlaw07_NumSound.mono : ∀ a0 a1 a2 a3 a4 a5 a6 a7 a8 a9 a10 a11 a12 a13 k, LeO (halberdlaw07_NumSound.f k a0 a1 a2 a3 a4 a5 a6 a7 a8 a9 a10 a11 a12 a13) (halberdlaw07_NumSound.f (k + 1) a0 a1 a2 a3 a4 a5 a6 a7 a8 a9 a10 a11 a12 a13) := by
  intro a0 a1 a2 a3 a4 a5 a6 a7 a8 a9 a10 a11 a12 a13 k
  obtain ⟨ih0, ih1⟩ := halberdlaw07_NumSound.mono_l k
  unfold halberdlaw07_NumSound.f
  repeat' first
      | (with_reducible exact ih0 _ _ _ _ _ _ _ _ _ _ _ _ _ _ _ _ _ _ _ _ _ _ _)
      | (with_reducible exact ih1 _ _ _ _ _ _ _ _ _ _ _ _ _ _ _)
      | (with_reducible exact halberdlaw07_alive.mono _)
      | (with_reducible exact halberdref01_Zext.mono _ _ _)
      | (with_reducible exact num_Cut.mono _ _ _ _ _ _ _ _)
      | (with_reducible exact LeO.refl _)
      | (with_reducible exact LeO.none _)
      | (with_reducible refine LeO.ite ?_ ?_)
      | (with_reducible refine LeO.bind ?_ (fun _ => ?_))
      | exact ih0 _ _ _ _ _ _ _ _ _ _ _ _ _ _ _ _ _ _ _ _ _ _ _
      | exact ih1 _ _ _ _ _ _ _ _ _ _ _ _ _ _ _
      | exact halberdlaw07_alive.mono _
      | exact halberdref01_Zext.mono _ _ _
      | exact num_Cut.mono _ _ _ _ _ _ _ _
      | exact LeO.none _
      | refine LeO.ite ?_ ?_
      | refine LeO.bind ?_ (fun _ => ?_)
def halberdlaw07_NumSound.T5 : Bool × List (List Nat × List Nat) := (true, [([], []), ([0], [0]), ([1], [1]), ([1], [1]), ([2, 3, 1, 1], [1, 2, 3]), ([1], [1]), ([1], [1]), ([5, 6, 4, 1], [1, 5, 6]), ([4, 7, 1], [1, 4, 7]), ([1, 8], [1, 8])])
def halberdlaw07_NumSound.B5 : List Nat := [0, 1, 3, 3, 15, 3, 3, 127, 255, 511]
theorem halberdlaw07_NumSound.tab5 : rtab .any (opsOf Try.f8 5) = halberdlaw07_NumSound.T5 := by kernel_rfl
theorem halberdlaw07_NumSound.bits5 : waitsOk halberdlaw07_NumSound.T5.2 halberdlaw07_NumSound.B5 = true := by kernel_rfl
set_option maxHeartbeats 8000000 in
set_option maxRecDepth 100000 in
theorem halberdlaw07_NumSound.calls (k : Nat) (a0_0 : Int) (a0_1 : Int) (a0_2 : Int) (a0_3 : Int) (a0_4 : Int) (a0_5 : Int) (a1_0 : Int) (a1_1 : Int) (a1_2 : Int) (a1_3 : Int) (a1_4 : Int) (a1_5 : Int) (a2 : Int) (a3 : Int) (r : Bool) (w : World) (hr_ : Aside0 (r = true)) (h : halberdlaw07_NumSound.f k a0_0 a0_1 a0_2 a0_3 a0_4 a0_5 a1_0 a1_1 a1_2 a1_3 a1_4 a1_5 a2 a3 = some r) :
    Calls Try.prog 8 #[.agg #[.int .u64 a0_0, .int .u64 a0_1, .int .u64 a0_2, .int .u64 a0_3, .int .i64 a0_4, .int .i64 a0_5], .agg #[.int .u64 a1_0, .int .u64 a1_1, .int .u64 a1_2, .int .u64 a1_3, .int .i64 a1_4, .int .i64 a1_5], .int .u64 a2, .int .i64 a3] w fun e w' => e = .returned (.bool r) ∧ Below w.heap.size w w' := by
  have hu36 := Try.underlying36
  have HB := Aside0.mk (Below.refl w.heap.size w)
  have H : ((halberdlaw07_alive.f k).bind fun t231 => (if t231 = true then ((num_Refine.f a0_0 a0_1 a0_2 a0_3 a0_4 a0_5).bind fun bt232 => ((num_Meet.f a0_0 a0_1 a0_2 a0_3 a0_4 a0_5 a1_0 a1_1 a1_2 a1_3 a1_4 a1_5).bind fun bt240 => (if bt232.2.2.2.2.2.2 = true then ((num_Has.f bt232.1 bt232.2.1 bt232.2.2.1 bt232.2.2.2.1 bt232.2.2.2.2.1 bt232.2.2.2.2.2.1 a2).bind fun t248 => ((num_Has.f a0_0 a0_1 a0_2 a0_3 a0_4 a0_5 a2).bind fun t249 => (halberdlaw07_NumSound.j0 k a2 a3 bt232.2.2.2.2.2.2 bt240.2.2.2.2.2.2 (t248 != t249) a0_0 a0_1 a0_2 a0_3 a0_4 a0_5 a1_0 a1_1 a1_2 a1_3 a1_4 a1_5 bt240.1 bt240.2.1 bt240.2.2.1 bt240.2.2.2.1 bt240.2.2.2.2.1 bt240.2.2.2.2.2.1))) else (halberdlaw07_NumSound.j0 k a2 a3 bt232.2.2.2.2.2.2 bt240.2.2.2.2.2.2 false a0_0 a0_1 a0_2 a0_3 a0_4 a0_5 a1_0 a1_1 a1_2 a1_3 a1_4 a1_5 bt240.1 bt240.2.1 bt240.2.2.1 bt240.2.2.2.1 bt240.2.2.2.2.1 bt240.2.2.2.2.2.1)))) else (some false))) = some r := h
  clear h
  replace H := Option.bind_eq_some_iff.mp H
  obtain ⟨t231, A50, H⟩ := H
  replace H : (if t231 = true then ((num_Refine.f a0_0 a0_1 a0_2 a0_3 a0_4 a0_5).bind fun bt232 => ((num_Meet.f a0_0 a0_1 a0_2 a0_3 a0_4 a0_5 a1_0 a1_1 a1_2 a1_3 a1_4 a1_5).bind fun bt240 => (if bt232.2.2.2.2.2.2 = true then ((num_Has.f bt232.1 bt232.2.1 bt232.2.2.1 bt232.2.2.2.1 bt232.2.2.2.2.1 bt232.2.2.2.2.2.1 a2).bind fun t248 => ((num_Has.f a0_0 a0_1 a0_2 a0_3 a0_4 a0_5 a2).bind fun t249 => (halberdlaw07_NumSound.j0 k a2 a3 bt232.2.2.2.2.2.2 bt240.2.2.2.2.2.2 (t248 != t249) a0_0 a0_1 a0_2 a0_3 a0_4 a0_5 a1_0 a1_1 a1_2 a1_3 a1_4 a1_5 bt240.1 bt240.2.1 bt240.2.2.1 bt240.2.2.2.1 bt240.2.2.2.2.1 bt240.2.2.2.2.2.1))) else (halberdlaw07_NumSound.j0 k a2 a3 bt232.2.2.2.2.2.2 bt240.2.2.2.2.2.2 false a0_0 a0_1 a0_2 a0_3 a0_4 a0_5 a1_0 a1_1 a1_2 a1_3 a1_4 a1_5 bt240.1 bt240.2.1 bt240.2.2.1 bt240.2.2.2.1 bt240.2.2.2.2.1 bt240.2.2.2.2.2.1)))) else (some false)) = some r := H
  have A5 := Aside0.mk A50
  clear A50
  by_cases c6 : t231 = true
  · subst c6
    have H1 : ((num_Refine.f a0_0 a0_1 a0_2 a0_3 a0_4 a0_5).bind fun bt232 => ((num_Meet.f a0_0 a0_1 a0_2 a0_3 a0_4 a0_5 a1_0 a1_1 a1_2 a1_3 a1_4 a1_5).bind fun bt240 => (if bt232.2.2.2.2.2.2 = true then ((num_Has.f bt232.1 bt232.2.1 bt232.2.2.1 bt232.2.2.2.1 bt232.2.2.2.2.1 bt232.2.2.2.2.2.1 a2).bind fun t248 => ((num_Has.f a0_0 a0_1 a0_2 a0_3 a0_4 a0_5 a2).bind fun t249 => (halberdlaw07_NumSound.j0 k a2 a3 bt232.2.2.2.2.2.2 bt240.2.2.2.2.2.2 (t248 != t249) a0_0 a0_1 a0_2 a0_3 a0_4 a0_5 a1_0 a1_1 a1_2 a1_3 a1_4 a1_5 bt240.1 bt240.2.1 bt240.2.2.1 bt240.2.2.2.1 bt240.2.2.2.2.1 bt240.2.2.2.2.2.1))) else (halberdlaw07_NumSound.j0 k a2 a3 bt232.2.2.2.2.2.2 bt240.2.2.2.2.2.2 false a0_0 a0_1 a0_2 a0_3 a0_4 a0_5 a1_0 a1_1 a1_2 a1_3 a1_4 a1_5 bt240.1 bt240.2.1 bt240.2.2.1 bt240.2.2.2.1 bt240.2.2.2.2.1 bt240.2.2.2.2.2.1)))) = some r := by rw [if_pos rfl] at H; exact H
    clear H
    have H := H1
    clear H1
    replace H := Option.bind_eq_some_iff.mp H
    obtain ⟨⟨t232, t233, t234, t235, t236, t237, t238⟩, A70, H⟩ := H
    replace H : ((num_Meet.f a0_0 a0_1 a0_2 a0_3 a0_4 a0_5 a1_0 a1_1 a1_2 a1_3 a1_4 a1_5).bind fun bt240 => (if t238 = true then ((num_Has.f t232 t233 t234 t235 t236 t237 a2).bind fun t248 => ((num_Has.f a0_0 a0_1 a0_2 a0_3 a0_4 a0_5 a2).bind fun t249 => (halberdlaw07_NumSound.j0 k a2 a3 t238 bt240.2.2.2.2.2.2 (t248 != t249) a0_0 a0_1 a0_2 a0_3 a0_4 a0_5 a1_0 a1_1 a1_2 a1_3 a1_4 a1_5 bt240.1 bt240.2.1 bt240.2.2.1 bt240.2.2.2.1 bt240.2.2.2.2.1 bt240.2.2.2.2.2.1))) else (halberdlaw07_NumSound.j0 k a2 a3 t238 bt240.2.2.2.2.2.2 false a0_0 a0_1 a0_2 a0_3 a0_4 a0_5 a1_0 a1_1 a1_2 a1_3 a1_4 a1_5 bt240.1 bt240.2.1 bt240.2.2.1 bt240.2.2.2.1 bt240.2.2.2.2.1 bt240.2.2.2.2.2.1))) = some r := H
    have A7 := Aside0.mk A70
    clear A70
    replace H := Option.bind_eq_some_iff.mp H
    obtain ⟨⟨t240, t241, t242, t243, t244, t245, t246⟩, A80, H⟩ := H
    replace H : (if t238 = true then ((num_Has.f t232 t233 t234 t235 t236 t237 a2).bind fun t248 => ((num_Has.f a0_0 a0_1 a0_2 a0_3 a0_4 a0_5 a2).bind fun t249 => (halberdlaw07_NumSound.j0 k a2 a3 t238 t246 (t248 != t249) a0_0 a0_1 a0_2 a0_3 a0_4 a0_5 a1_0 a1_1 a1_2 a1_3 a1_4 a1_5 t240 t241 t242 t243 t244 t245))) else (halberdlaw07_NumSound.j0 k a2 a3 t238 t246 false a0_0 a0_1 a0_2 a0_3 a0_4 a0_5 a1_0 a1_1 a1_2 a1_3 a1_4 a1_5 t240 t241 t242 t243 t244 t245)) = some r := H
    have A8 := Aside0.mk A80
    clear A80
    have HC9 := Aside0.mk H
    clear H
    go_enter Try.func8, Try.ntmps8
    go_upto_region 5 with (first | ((with_reducible refine gate_dst (N := 4) rfl ?_); refine box_event ?hg (N := 4) ?hd (cs := #[.int .u64 a0_0, .int .u64 a0_1, .int .u64 a0_2, .int .u64 a0_3, .int .i64 a0_4, .int .i64 a0_5]) (t := 36) ?hr ?_; (case hd => rfl); (case hg => rfl); (case hr => first | (go_simp; done) | (go_simp; rfl)); intro gb229 hg w10 hbox hb; have n0_ := Aside0.mk (below_step (by repeat (first | (with_reducible first | exact HB.out | apply below_alloc | apply pw_below_drewN | apply below_drew1) | exact HB.out)) hb); have n1_ := Aside0.mk (hbox); have n2_ := Aside0.mk ((by rw [hg]; exact (below_size (by repeat (first | (with_reducible first | exact HB.out | apply below_alloc | apply pw_below_drewN | apply below_drew1) | exact HB.out))) : w.heap.size ≤ gb229)); have n3_ := Aside0.mk ((by rw [hg]; exact (below_size (by repeat (first | (with_reducible first | exact HB.out | apply below_alloc | apply pw_below_drewN | apply below_drew1) | exact HB.out))) : w.heap.size ≤ gb229)); clear HB; have HB := n0_; have BK229 := n1_; have GW229 := n2_; have GE229 := n3_; clear n0_ n1_ n2_ n3_; clear hb hbox hg) | ((with_reducible refine gate_dst (N := 5) rfl ?_); refine box_event ?hg (N := 5) ?hd (cs := #[.int .u64 a1_0, .int .u64 a1_1, .int .u64 a1_2, .int .u64 a1_3, .int .i64 a1_4, .int .i64 a1_5]) (t := 36) ?hr ?_; (case hd => rfl); (case hg => rfl); (case hr => first | (go_simp; done) | (go_simp; rfl)); intro gb230 hg w11 hbox hb; have n0_ := Aside0.mk (blk_below (g := gb229) (o := .cells #[.int .u64 a0_0, .int .u64 a0_1, .int .u64 a0_2, .int .u64 a0_3, .int .i64 a0_4, .int .i64 a0_5] 36 (0, 0)) (by (with_reducible repeat (first | refine blk_drewN ?_ _ | refine blk_drew ?_ | refine blk_alloc ?_ _)); exact BK229.out) hb); have n1_ := Aside0.mk (below_step (by repeat (first | (with_reducible first | exact HB.out | apply below_alloc | apply pw_below_drewN | apply below_drew1 | refine below_set ?_ GE229.out) | exact HB.out)) hb); have n2_ := Aside0.mk (hbox); have n3_ := Aside0.mk ((by rw [hg]; exact (below_size (by repeat (first | (with_reducible first | exact HB.out | apply below_alloc | apply pw_below_drewN | apply below_drew1 | refine below_set ?_ GE229.out) | exact HB.out))) : w.heap.size ≤ gb230)); have n4_ := Aside0.mk ((by rw [hg]; exact (below_size (by repeat (first | (with_reducible first | exact HB.out | apply below_alloc | apply pw_below_drewN | apply below_drew1 | refine below_set ?_ GE229.out) | exact HB.out))) : w.heap.size ≤ gb230)); have n5_ := Aside0.mk ((by rw [hg]; exact Nat.ne_of_lt (blk_lt (g := gb229) (o := .cells #[.int .u64 a0_0, .int .u64 a0_1, .int .u64 a0_2, .int .u64 a0_3, .int .i64 a0_4, .int .i64 a0_5] 36 (0, 0)) (by (with_reducible repeat (first | refine blk_drewN ?_ _ | refine blk_drew ?_ | refine blk_alloc ?_ _)); exact BK229.out)) : gb229 ≠ gb230)); have n6_ := Aside0.mk ((by rw [hg]; exact Nat.ne_of_gt (blk_lt (g := gb229) (o := .cells #[.int .u64 a0_0, .int .u64 a0_1, .int .u64 a0_2, .int .u64 a0_3, .int .i64 a0_4, .int .i64 a0_5] 36 (0, 0)) (by (with_reducible repeat (first | refine blk_drewN ?_ _ | refine blk_drew ?_ | refine blk_alloc ?_ _)); exact BK229.out)) : gb230 ≠ gb229)); clear BK229; clear HB; have BK229 := n0_; have HB := n1_; have BK230 := n2_; have GW230 := n3_; have GE230 := n4_; have NB229_230 := n5_; have NB230_229 := n6_; clear n0_ n1_ n2_ n3_ n4_ n5_ n6_; clear hb hbox hg) | ((with_reducible refine gate_callee (f := 18) rfl ?_); refine goesL_ (some 13) rfl rfl Try.func18 (by kernel_rfl) rfl #[] rfl (by (try simp only [List.map_toArray, List.map_cons, List.map_nil]); first | done | rfl | (simp only [List.length_drop, List.length_take]; rfl)) ?_; (with_reducible refine (halberdlaw07_alive.calls k  true _ A5.out).mono ?_); rintro e w12 ⟨rfl, hb⟩; refine ⟨_, rfl, ?_⟩; have n0_ := Aside0.mk (blk_below (g := gb229) (o := .cells #[.int .u64 a0_0, .int .u64 a0_1, .int .u64 a0_2, .int .u64 a0_3, .int .i64 a0_4, .int .i64 a0_5] 36 (0, 0)) (by (with_reducible repeat (first | refine blk_drewN ?_ _ | refine blk_drew ?_ | refine blk_alloc ?_ _)); exact BK229.out) hb); have n1_ := Aside0.mk (blk_below (g := gb230) (o := .cells #[.int .u64 a1_0, .int .u64 a1_1, .int .u64 a1_2, .int .u64 a1_3, .int .i64 a1_4, .int .i64 a1_5] 36 (0, 0)) (by (with_reducible repeat (first | refine blk_drewN ?_ _ | refine blk_drew ?_ | refine blk_alloc ?_ _)); exact BK230.out) hb); have n2_ := Aside0.mk (below_step (by repeat (first | (with_reducible first | exact HB.out | apply below_alloc | apply pw_below_drewN | apply below_drew1 | refine below_set ?_ GE229.out | refine below_set ?_ GE230.out) | exact HB.out)) hb); clear BK229; clear BK230; clear HB; have BK229 := n0_; have BK230 := n1_; have HB := n2_; clear n0_ n1_ n2_; (try clear hb); (try clear hb2); (try clear hk); (try clear hi); have hnb13 := NB229_230.out; have hnc13 := NB230_229.out; have hcz14_0 : w12.cell? ⟨gb229, 0, none⟩ = some (.int .u64 a0_0) := (blk_cell BK229.out 0).trans rfl; have hcz14_1 : w12.cell? ⟨gb229, 1, none⟩ = some (.int .u64 a0_1) := (blk_cell BK229.out 1).trans rfl; have hcz14_2 : w12.cell? ⟨gb229, 2, none⟩ = some (.int .u64 a0_2) := (blk_cell BK229.out 2).trans rfl; have hcz14_3 : w12.cell? ⟨gb229, 3, none⟩ = some (.int .u64 a0_3) := (blk_cell BK229.out 3).trans rfl; have hcz14_4 : w12.cell? ⟨gb229, 4, none⟩ = some (.int .i64 a0_4) := (blk_cell BK229.out 4).trans rfl; have hcz14_5 : w12.cell? ⟨gb229, 5, none⟩ = some (.int .i64 a0_5) := (blk_cell BK229.out 5).trans rfl; have hfz14_0 := blk_frozen BK229.out 0; have hfz14_1 := blk_frozen BK229.out 1; have hfz14_2 := blk_frozen BK229.out 2; have hfz14_3 := blk_frozen BK229.out 3; have hfz14_4 := blk_frozen BK229.out 4; have hfz14_5 := blk_frozen BK229.out 5) | ((with_reducible refine gate_callee (f := 19) rfl ?_); refine goesL_ (some 17) rfl rfl Try.func19 (by kernel_rfl) rfl #[.agg #[.int .u64 a0_0, .int .u64 a0_1, .int .u64 a0_2, .int .u64 a0_3, .int .i64 a0_4, .int .i64 a0_5]] rfl (by (try simp only [List.map_toArray, List.map_cons, List.map_nil]); first | done | rfl | (simp only [List.length_drop, List.length_take]; rfl)) ?_; (with_reducible refine (num_Refine.calls a0_0 a0_1 a0_2 a0_3 a0_4 a0_5 t232 t233 t234 t235 t236 t237 t238 _ A7.out).mono ?_); rintro e w15 ⟨rfl, hb⟩; refine ⟨_, rfl, ?_⟩; have n0_ := Aside0.mk (blk_below (g := gb229) (o := .cells #[.int .u64 a0_0, .int .u64 a0_1, .int .u64 a0_2, .int .u64 a0_3, .int .i64 a0_4, .int .i64 a0_5] 36 (0, 0)) (by (with_reducible repeat (first | refine blk_drewN ?_ _ | refine blk_drew ?_ | refine blk_alloc ?_ _)); exact BK229.out) hb); have n1_ := Aside0.mk (blk_below (g := gb230) (o := .cells #[.int .u64 a1_0, .int .u64 a1_1, .int .u64 a1_2, .int .u64 a1_3, .int .i64 a1_4, .int .i64 a1_5] 36 (0, 0)) (by (with_reducible repeat (first | refine blk_drewN ?_ _ | refine blk_drew ?_ | refine blk_alloc ?_ _)); exact BK230.out) hb); have n2_ := Aside0.mk (below_step (by repeat (first | (with_reducible first | exact HB.out | apply below_alloc | apply pw_below_drewN | apply below_drew1 | refine below_set ?_ GE229.out | refine below_set ?_ GE230.out) | exact HB.out)) hb); clear BK229; clear BK230; clear HB; have BK229 := n0_; have BK230 := n1_; have HB := n2_; clear n0_ n1_ n2_; (try clear hb); (try clear hb2); (try clear hk); (try clear hi)) | ((with_reducible refine gate_dst (N := 9) rfl ?_); refine box_event ?hg (N := 9) ?hd (cs := #[.int .u64 0, .int .u64 0, .int .u64 0, .int .u64 0, .int .i64 0, .int .i64 0]) (t := 36) ?hr ?_; (case hd => rfl); (case hg => rfl); (case hr => first | (go_simp; done) | (go_simp; rfl)); intro gb239 hg w16 hbox hb; have n0_ := Aside0.mk (blk_below (g := gb229) (o := .cells #[.int .u64 a0_0, .int .u64 a0_1, .int .u64 a0_2, .int .u64 a0_3, .int .i64 a0_4, .int .i64 a0_5] 36 (0, 0)) (by (with_reducible repeat (first | refine blk_drewN ?_ _ | refine blk_drew ?_ | refine blk_alloc ?_ _)); exact BK229.out) hb); have n1_ := Aside0.mk (blk_below (g := gb230) (o := .cells #[.int .u64 a1_0, .int .u64 a1_1, .int .u64 a1_2, .int .u64 a1_3, .int .i64 a1_4, .int .i64 a1_5] 36 (0, 0)) (by (with_reducible repeat (first | refine blk_drewN ?_ _ | refine blk_drew ?_ | refine blk_alloc ?_ _)); exact BK230.out) hb); have n2_ := Aside0.mk (below_step (by repeat (first | (with_reducible first | exact HB.out | apply below_alloc | apply pw_below_drewN | apply below_drew1 | refine below_set ?_ GE229.out | refine below_set ?_ GE230.out) | exact HB.out)) hb); have n3_ := Aside0.mk (hbox); have n4_ := Aside0.mk ((by rw [hg]; exact (below_size (by repeat (first | (with_reducible first | exact HB.out | apply below_alloc | apply pw_below_drewN | apply below_drew1 | refine below_set ?_ GE229.out | refine below_set ?_ GE230.out) | exact HB.out))) : w.heap.size ≤ gb239)); have n5_ := Aside0.mk ((by rw [hg]; exact (below_size (by repeat (first | (with_reducible first | exact HB.out | apply below_alloc | apply pw_below_drewN | apply below_drew1 | refine below_set ?_ GE229.out | refine below_set ?_ GE230.out) | exact HB.out))) : w.heap.size ≤ gb239)); have n6_ := Aside0.mk ((by rw [hg]; exact Nat.ne_of_lt (blk_lt (g := gb229) (o := .cells #[.int .u64 a0_0, .int .u64 a0_1, .int .u64 a0_2, .int .u64 a0_3, .int .i64 a0_4, .int .i64 a0_5] 36 (0, 0)) (by (with_reducible repeat (first | refine blk_drewN ?_ _ | refine blk_drew ?_ | refine blk_alloc ?_ _)); exact BK229.out)) : gb229 ≠ gb239)); have n7_ := Aside0.mk ((by rw [hg]; exact Nat.ne_of_gt (blk_lt (g := gb229) (o := .cells #[.int .u64 a0_0, .int .u64 a0_1, .int .u64 a0_2, .int .u64 a0_3, .int .i64 a0_4, .int .i64 a0_5] 36 (0, 0)) (by (with_reducible repeat (first | refine blk_drewN ?_ _ | refine blk_drew ?_ | refine blk_alloc ?_ _)); exact BK229.out)) : gb239 ≠ gb229)); have n8_ := Aside0.mk ((by rw [hg]; exact Nat.ne_of_lt (blk_lt (g := gb230) (o := .cells #[.int .u64 a1_0, .int .u64 a1_1, .int .u64 a1_2, .int .u64 a1_3, .int .i64 a1_4, .int .i64 a1_5] 36 (0, 0)) (by (with_reducible repeat (first | refine blk_drewN ?_ _ | refine blk_drew ?_ | refine blk_alloc ?_ _)); exact BK230.out)) : gb230 ≠ gb239)); have n9_ := Aside0.mk ((by rw [hg]; exact Nat.ne_of_gt (blk_lt (g := gb230) (o := .cells #[.int .u64 a1_0, .int .u64 a1_1, .int .u64 a1_2, .int .u64 a1_3, .int .i64 a1_4, .int .i64 a1_5] 36 (0, 0)) (by (with_reducible repeat (first | refine blk_drewN ?_ _ | refine blk_drew ?_ | refine blk_alloc ?_ _)); exact BK230.out)) : gb239 ≠ gb230)); clear BK229; clear BK230; clear HB; have BK229 := n0_; have BK230 := n1_; have HB := n2_; have BK239 := n3_; have GW239 := n4_; have GE239 := n5_; have NB229_239 := n6_; have NB239_229 := n7_; have NB230_239 := n8_; have NB239_230 := n9_; clear n0_ n1_ n2_ n3_ n4_ n5_ n6_ n7_ n8_ n9_; clear hb hbox hg; have hnb17 := NB239_229.out; have hnc17 := NB229_239.out; have hnb18 := NB239_230.out; have hnc18 := NB230_239.out; have hcz19_0 : w16.cell? ⟨gb239, 0, none⟩ = some (.int .u64 0) := (blk_cell BK239.out 0).trans rfl; have hcz19_1 : w16.cell? ⟨gb239, 1, none⟩ = some (.int .u64 0) := (blk_cell BK239.out 1).trans rfl; have hcz19_2 : w16.cell? ⟨gb239, 2, none⟩ = some (.int .u64 0) := (blk_cell BK239.out 2).trans rfl; have hcz19_3 : w16.cell? ⟨gb239, 3, none⟩ = some (.int .u64 0) := (blk_cell BK239.out 3).trans rfl; have hcz19_4 : w16.cell? ⟨gb239, 4, none⟩ = some (.int .i64 0) := (blk_cell BK239.out 4).trans rfl; have hcz19_5 : w16.cell? ⟨gb239, 5, none⟩ = some (.int .i64 0) := (blk_cell BK239.out 5).trans rfl; have hfz19_0 := blk_frozen BK239.out 0; have hfz19_1 := blk_frozen BK239.out 1; have hfz19_2 := blk_frozen BK239.out 2; have hfz19_3 := blk_frozen BK239.out 3; have hfz19_4 := blk_frozen BK239.out 4; have hfz19_5 := blk_frozen BK239.out 5; have hcz20_0 : w16.cell? ⟨gb229, 0, none⟩ = some (.int .u64 a0_0) := (blk_cell BK229.out 0).trans rfl; have hcz20_1 : w16.cell? ⟨gb229, 1, none⟩ = some (.int .u64 a0_1) := (blk_cell BK229.out 1).trans rfl; have hcz20_2 : w16.cell? ⟨gb229, 2, none⟩ = some (.int .u64 a0_2) := (blk_cell BK229.out 2).trans rfl; have hcz20_3 : w16.cell? ⟨gb229, 3, none⟩ = some (.int .u64 a0_3) := (blk_cell BK229.out 3).trans rfl; have hcz20_4 : w16.cell? ⟨gb229, 4, none⟩ = some (.int .i64 a0_4) := (blk_cell BK229.out 4).trans rfl; have hcz20_5 : w16.cell? ⟨gb229, 5, none⟩ = some (.int .i64 a0_5) := (blk_cell BK229.out 5).trans rfl; have hfz20_0 := blk_frozen BK229.out 0; have hfz20_1 := blk_frozen BK229.out 1; have hfz20_2 := blk_frozen BK229.out 2; have hfz20_3 := blk_frozen BK229.out 3; have hfz20_4 := blk_frozen BK229.out 4; have hfz20_5 := blk_frozen BK229.out 5; have hcz21_0 : w16.cell? ⟨gb230, 0, none⟩ = some (.int .u64 a1_0) := (blk_cell BK230.out 0).trans rfl; have hcz21_1 : w16.cell? ⟨gb230, 1, none⟩ = some (.int .u64 a1_1) := (blk_cell BK230.out 1).trans rfl; have hcz21_2 : w16.cell? ⟨gb230, 2, none⟩ = some (.int .u64 a1_2) := (blk_cell BK230.out 2).trans rfl; have hcz21_3 : w16.cell? ⟨gb230, 3, none⟩ = some (.int .u64 a1_3) := (blk_cell BK230.out 3).trans rfl; have hcz21_4 : w16.cell? ⟨gb230, 4, none⟩ = some (.int .i64 a1_4) := (blk_cell BK230.out 4).trans rfl; have hcz21_5 : w16.cell? ⟨gb230, 5, none⟩ = some (.int .i64 a1_5) := (blk_cell BK230.out 5).trans rfl; have hfz21_0 := blk_frozen BK230.out 0; have hfz21_1 := blk_frozen BK230.out 1; have hfz21_2 := blk_frozen BK230.out 2; have hfz21_3 := blk_frozen BK230.out 3; have hfz21_4 := blk_frozen BK230.out 4; have hfz21_5 := blk_frozen BK230.out 5) | ((with_reducible refine gate_callee (f := 21) rfl ?_); refine goesL_ (some 23) rfl rfl Try.func21 (by kernel_rfl) rfl #[.agg #[.int .u64 a0_0, .int .u64 a0_1, .int .u64 a0_2, .int .u64 a0_3, .int .i64 a0_4, .int .i64 a0_5], .agg #[.int .u64 a1_0, .int .u64 a1_1, .int .u64 a1_2, .int .u64 a1_3, .int .i64 a1_4, .int .i64 a1_5]] rfl (by (try simp only [List.map_toArray, List.map_cons, List.map_nil]); first | done | rfl | (simp only [List.length_drop, List.length_take]; rfl)) ?_; (with_reducible refine (num_Meet.calls a0_0 a0_1 a0_2 a0_3 a0_4 a0_5 a1_0 a1_1 a1_2 a1_3 a1_4 a1_5 t240 t241 t242 t243 t244 t245 t246 _ A8.out).mono ?_); rintro e w22 ⟨rfl, hb⟩; refine ⟨_, rfl, ?_⟩; have n0_ := Aside0.mk (blk_below (g := gb229) (o := .cells #[.int .u64 a0_0, .int .u64 a0_1, .int .u64 a0_2, .int .u64 a0_3, .int .i64 a0_4, .int .i64 a0_5] 36 (0, 0)) (by (with_reducible repeat (first | refine blk_drewN ?_ _ | refine blk_drew ?_ | refine blk_alloc ?_ _)); refine blk_far ?_ NB229_239.out _; refine blk_far ?_ NB229_239.out _; refine blk_far ?_ NB229_239.out _; refine blk_far ?_ NB229_239.out _; refine blk_far ?_ NB229_239.out _; refine blk_far ?_ NB229_239.out _; (with_reducible repeat (first | refine blk_drewN ?_ _ | refine blk_drew ?_ | refine blk_alloc ?_ _)); exact BK229.out) hb); have n1_ := Aside0.mk (blk_below (g := gb230) (o := .cells #[.int .u64 a1_0, .int .u64 a1_1, .int .u64 a1_2, .int .u64 a1_3, .int .i64 a1_4, .int .i64 a1_5] 36 (0, 0)) (by (with_reducible repeat (first | refine blk_drewN ?_ _ | refine blk_drew ?_ | refine blk_alloc ?_ _)); refine blk_far ?_ NB230_239.out _; refine blk_far ?_ NB230_239.out _; refine blk_far ?_ NB230_239.out _; refine blk_far ?_ NB230_239.out _; refine blk_far ?_ NB230_239.out _; refine blk_far ?_ NB230_239.out _; (with_reducible repeat (first | refine blk_drewN ?_ _ | refine blk_drew ?_ | refine blk_alloc ?_ _)); exact BK230.out) hb); have n2_ := Aside0.mk (blk_below (g := gb239) (o := .cells #[.int .u64 t232, .int .u64 t233, .int .u64 t234, .int .u64 t235, .int .i64 t236, .int .i64 t237] 36 (0, 0)) (by (with_reducible repeat (first | refine blk_drewN ?_ _ | refine blk_drew ?_ | refine blk_alloc ?_ _)); refine blk_put (cs := #[.int .u64 t232, .int .u64 t233, .int .u64 t234, .int .u64 t235, .int .i64 t236, .int .i64 0]) ?_ 5 _ rfl; refine blk_put (cs := #[.int .u64 t232, .int .u64 t233, .int .u64 t234, .int .u64 t235, .int .i64 0, .int .i64 0]) ?_ 4 _ rfl; refine blk_put (cs := #[.int .u64 t232, .int .u64 t233, .int .u64 t234, .int .u64 0, .int .i64 0, .int .i64 0]) ?_ 3 _ rfl; refine blk_put (cs := #[.int .u64 t232, .int .u64 t233, .int .u64 0, .int .u64 0, .int .i64 0, .int .i64 0]) ?_ 2 _ rfl; refine blk_put (cs := #[.int .u64 t232, .int .u64 0, .int .u64 0, .int .u64 0, .int .i64 0, .int .i64 0]) ?_ 1 _ rfl; refine blk_put (cs := #[.int .u64 0, .int .u64 0, .int .u64 0, .int .u64 0, .int .i64 0, .int .i64 0]) ?_ 0 _ rfl; (with_reducible repeat (first | refine blk_drewN ?_ _ | refine blk_drew ?_ | refine blk_alloc ?_ _)); exact BK239.out) hb); have n3_ := Aside0.mk (below_step (by repeat (first | (with_reducible first | exact HB.out | apply below_alloc | apply pw_below_drewN | apply below_drew1 | refine below_set ?_ GE229.out | refine below_set ?_ GE230.out | refine below_set ?_ GE239.out) | exact HB.out)) hb); clear BK229; clear BK230; clear BK239; clear HB; have BK229 := n0_; have BK230 := n1_; have BK239 := n2_; have HB := n3_; clear n0_ n1_ n2_ n3_; (try clear hb); (try clear hb2); (try clear hk); (try clear hi)) | ((with_reducible refine gate_dst (N := 11) rfl ?_); refine box_event ?hg (N := 11) ?hd (cs := #[.int .u64 0, .int .u64 0, .int .u64 0, .int .u64 0, .int .i64 0, .int .i64 0]) (t := 36) ?hr ?_; (case hd => rfl); (case hg => rfl); (case hr => first | (go_simp; done) | (go_simp; rfl)); intro gb247 hg w23 hbox hb; have n0_ := Aside0.mk (blk_below (g := gb229) (o := .cells #[.int .u64 a0_0, .int .u64 a0_1, .int .u64 a0_2, .int .u64 a0_3, .int .i64 a0_4, .int .i64 a0_5] 36 (0, 0)) (by (with_reducible repeat (first | refine blk_drewN ?_ _ | refine blk_drew ?_ | refine blk_alloc ?_ _)); exact BK229.out) hb); have n1_ := Aside0.mk (blk_below (g := gb230) (o := .cells #[.int .u64 a1_0, .int .u64 a1_1, .int .u64 a1_2, .int .u64 a1_3, .int .i64 a1_4, .int .i64 a1_5] 36 (0, 0)) (by (with_reducible repeat (first | refine blk_drewN ?_ _ | refine blk_drew ?_ | refine blk_alloc ?_ _)); exact BK230.out) hb); have n2_ := Aside0.mk (blk_below (g := gb239) (o := .cells #[.int .u64 t232, .int .u64 t233, .int .u64 t234, .int .u64 t235, .int .i64 t236, .int .i64 t237] 36 (0, 0)) (by (with_reducible repeat (first | refine blk_drewN ?_ _ | refine blk_drew ?_ | refine blk_alloc ?_ _)); exact BK239.out) hb); have n3_ := Aside0.mk (below_step (by repeat (first | (with_reducible first | exact HB.out | apply below_alloc | apply pw_below_drewN | apply below_drew1 | refine below_set ?_ GE229.out | refine below_set ?_ GE230.out | refine below_set ?_ GE239.out) | exact HB.out)) hb); have n4_ := Aside0.mk (hbox); have n5_ := Aside0.mk ((by rw [hg]; exact (below_size (by repeat (first | (with_reducible first | exact HB.out | apply below_alloc | apply pw_below_drewN | apply below_drew1 | refine below_set ?_ GE229.out | refine below_set ?_ GE230.out | refine below_set ?_ GE239.out) | exact HB.out))) : w.heap.size ≤ gb247)); have n6_ := Aside0.mk ((by rw [hg]; exact (below_size (by repeat (first | (with_reducible first | exact HB.out | apply below_alloc | apply pw_below_drewN | apply below_drew1 | refine below_set ?_ GE229.out | refine below_set ?_ GE230.out | refine below_set ?_ GE239.out) | exact HB.out))) : w.heap.size ≤ gb247)); have n7_ := Aside0.mk ((by rw [hg]; exact Nat.ne_of_lt (blk_lt (g := gb229) (o := .cells #[.int .u64 a0_0, .int .u64 a0_1, .int .u64 a0_2, .int .u64 a0_3, .int .i64 a0_4, .int .i64 a0_5] 36 (0, 0)) (by (with_reducible repeat (first | refine blk_drewN ?_ _ | refine blk_drew ?_ | refine blk_alloc ?_ _)); exact BK229.out)) : gb229 ≠ gb247)); have n8_ := Aside0.mk ((by rw [hg]; exact Nat.ne_of_gt (blk_lt (g := gb229) (o := .cells #[.int .u64 a0_0, .int .u64 a0_1, .int .u64 a0_2, .int .u64 a0_3, .int .i64 a0_4, .int .i64 a0_5] 36 (0, 0)) (by (with_reducible repeat (first | refine blk_drewN ?_ _ | refine blk_drew ?_ | refine blk_alloc ?_ _)); exact BK229.out)) : gb247 ≠ gb229)); have n9_ := Aside0.mk ((by rw [hg]; exact Nat.ne_of_lt (blk_lt (g := gb230) (o := .cells #[.int .u64 a1_0, .int .u64 a1_1, .int .u64 a1_2, .int .u64 a1_3, .int .i64 a1_4, .int .i64 a1_5] 36 (0, 0)) (by (with_reducible repeat (first | refine blk_drewN ?_ _ | refine blk_drew ?_ | refine blk_alloc ?_ _)); exact BK230.out)) : gb230 ≠ gb247)); have n10_ := Aside0.mk ((by rw [hg]; exact Nat.ne_of_gt (blk_lt (g := gb230) (o := .cells #[.int .u64 a1_0, .int .u64 a1_1, .int .u64 a1_2, .int .u64 a1_3, .int .i64 a1_4, .int .i64 a1_5] 36 (0, 0)) (by (with_reducible repeat (first | refine blk_drewN ?_ _ | refine blk_drew ?_ | refine blk_alloc ?_ _)); exact BK230.out)) : gb247 ≠ gb230)); have n11_ := Aside0.mk ((by rw [hg]; exact Nat.ne_of_lt (blk_lt (g := gb239) (o := .cells #[.int .u64 t232, .int .u64 t233, .int .u64 t234, .int .u64 t235, .int .i64 t236, .int .i64 t237] 36 (0, 0)) (by (with_reducible repeat (first | refine blk_drewN ?_ _ | refine blk_drew ?_ | refine blk_alloc ?_ _)); exact BK239.out)) : gb239 ≠ gb247)); have n12_ := Aside0.mk ((by rw [hg]; exact Nat.ne_of_gt (blk_lt (g := gb239) (o := .cells #[.int .u64 t232, .int .u64 t233, .int .u64 t234, .int .u64 t235, .int .i64 t236, .int .i64 t237] 36 (0, 0)) (by (with_reducible repeat (first | refine blk_drewN ?_ _ | refine blk_drew ?_ | refine blk_alloc ?_ _)); exact BK239.out)) : gb247 ≠ gb239)); clear BK229; clear BK230; clear BK239; clear HB; have BK229 := n0_; have BK230 := n1_; have BK239 := n2_; have HB := n3_; have BK247 := n4_; have GW247 := n5_; have GE247 := n6_; have NB229_247 := n7_; have NB247_229 := n8_; have NB230_247 := n9_; have NB247_230 := n10_; have NB239_247 := n11_; have NB247_239 := n12_; clear n0_ n1_ n2_ n3_ n4_ n5_ n6_ n7_ n8_ n9_ n10_ n11_ n12_; clear hb hbox hg; have hnb24 := NB247_229.out; have hnc24 := NB229_247.out; have hnb25 := NB247_230.out; have hnc25 := NB230_247.out; have hnb26 := NB247_239.out; have hnc26 := NB239_247.out; have hcz27_0 : w23.cell? ⟨gb247, 0, none⟩ = some (.int .u64 0) := (blk_cell BK247.out 0).trans rfl; have hcz27_1 : w23.cell? ⟨gb247, 1, none⟩ = some (.int .u64 0) := (blk_cell BK247.out 1).trans rfl; have hcz27_2 : w23.cell? ⟨gb247, 2, none⟩ = some (.int .u64 0) := (blk_cell BK247.out 2).trans rfl; have hcz27_3 : w23.cell? ⟨gb247, 3, none⟩ = some (.int .u64 0) := (blk_cell BK247.out 3).trans rfl; have hcz27_4 : w23.cell? ⟨gb247, 4, none⟩ = some (.int .i64 0) := (blk_cell BK247.out 4).trans rfl; have hcz27_5 : w23.cell? ⟨gb247, 5, none⟩ = some (.int .i64 0) := (blk_cell BK247.out 5).trans rfl; have hfz27_0 := blk_frozen BK247.out 0; have hfz27_1 := blk_frozen BK247.out 1; have hfz27_2 := blk_frozen BK247.out 2; have hfz27_3 := blk_frozen BK247.out 3; have hfz27_4 := blk_frozen BK247.out 4; have hfz27_5 := blk_frozen BK247.out 5))
    (try simp only [Act.put, List.setIfInBounds_toArray, List.set_cons_zero, List.set_cons_succ])
    go_cut [35] (fun v35 wc => ∃ (kq : Nat) (x35_8 : Bool), v35 = .bool x35_8 ∧ Aside0 (halberdlaw07_NumSound.j0 kq a2 a3 t238 t246 x35_8 a0_0 a0_1 a0_2 a0_3 a0_4 a0_5 a1_0 a1_1 a1_2 a1_3 a1_4 a1_5 t240 t241 t242 t243 t244 t245 = some r) ∧ Aside0 (kq ≤ k) ∧ Aside0 (wc.heap[gb229]? = some (.cells #[.int .u64 a0_0, .int .u64 a0_1, .int .u64 a0_2, .int .u64 a0_3, .int .i64 a0_4, .int .i64 a0_5] 36 (0, 0))) ∧ Aside0 (wc.heap[gb230]? = some (.cells #[.int .u64 a1_0, .int .u64 a1_1, .int .u64 a1_2, .int .u64 a1_3, .int .i64 a1_4, .int .i64 a1_5] 36 (0, 0))) ∧ Aside0 (wc.heap[gb239]? = some (.cells #[.int .u64 t232, .int .u64 t233, .int .u64 t234, .int .u64 t235, .int .i64 t236, .int .i64 t237] 36 (0, 0))) ∧ Aside0 (wc.heap[gb247]? = some (.cells #[.int .u64 t240, .int .u64 t241, .int .u64 t242, .int .u64 t243, .int .i64 t244, .int .i64 t245] 36 (0, 0))) ∧ Aside0 (Below w.heap.size w wc))
    case first =>
      have H := HC9.out
      clear HC9
      by_cases c28 : t238 = true
      · subst c28
        have H1 : ((num_Has.f t232 t233 t234 t235 t236 t237 a2).bind fun t248 => ((num_Has.f a0_0 a0_1 a0_2 a0_3 a0_4 a0_5 a2).bind fun t249 => (halberdlaw07_NumSound.j0 k a2 a3 true t246 (t248 != t249) a0_0 a0_1 a0_2 a0_3 a0_4 a0_5 a1_0 a1_1 a1_2 a1_3 a1_4 a1_5 t240 t241 t242 t243 t244 t245))) = some r := by rw [if_pos rfl] at H; exact H
        clear H
        have H := H1
        clear H1
        replace H := Option.bind_eq_some_iff.mp H
        obtain ⟨t248, A290, H⟩ := H
        replace H : ((num_Has.f a0_0 a0_1 a0_2 a0_3 a0_4 a0_5 a2).bind fun t249 => (halberdlaw07_NumSound.j0 k a2 a3 true t246 (t248 != t249) a0_0 a0_1 a0_2 a0_3 a0_4 a0_5 a1_0 a1_1 a1_2 a1_3 a1_4 a1_5 t240 t241 t242 t243 t244 t245)) = some r := H
        have A29 := Aside0.mk A290
        clear A290
        replace H := Option.bind_eq_some_iff.mp H
        obtain ⟨t249, A300, H⟩ := H
        replace H : (halberdlaw07_NumSound.j0 k a2 a3 true t246 (t248 != t249) a0_0 a0_1 a0_2 a0_3 a0_4 a0_5 a1_0 a1_1 a1_2 a1_3 a1_4 a1_5 t240 t241 t242 t243 t244 t245) = some r := H
        have A30 := Aside0.mk A300
        clear A300
        have H' := Aside0.mk H
        clear H
        try go_wp2
        have n0_ : Aside0 (((((((w23.setCell ⟨gb247, 0, none⟩ (.int .u64 t240)).setCell ⟨gb247, 1, none⟩ (.int .u64 t241)).setCell ⟨gb247, 2, none⟩ (.int .u64 t242)).setCell ⟨gb247, 3, none⟩ (.int .u64 t243)).setCell ⟨gb247, 4, none⟩ (.int .i64 t244)).setCell ⟨gb247, 5, none⟩ (.int .i64 t245)).heap[gb229]? = some (.cells #[.int .u64 a0_0, .int .u64 a0_1, .int .u64 a0_2, .int .u64 a0_3, .int .i64 a0_4, .int .i64 a0_5] 36 (0, 0))) := ⟨by (with_reducible repeat (first | refine blk_drewN ?_ _ | refine blk_drew ?_ | refine blk_alloc ?_ _)); refine blk_far ?_ NB229_247.out _; refine blk_far ?_ NB229_247.out _; refine blk_far ?_ NB229_247.out _; refine blk_far ?_ NB229_247.out _; refine blk_far ?_ NB229_247.out _; refine blk_far ?_ NB229_247.out _; (with_reducible repeat (first | refine blk_drewN ?_ _ | refine blk_drew ?_ | refine blk_alloc ?_ _)); exact BK229.out⟩
        have n1_ : Aside0 (((((((w23.setCell ⟨gb247, 0, none⟩ (.int .u64 t240)).setCell ⟨gb247, 1, none⟩ (.int .u64 t241)).setCell ⟨gb247, 2, none⟩ (.int .u64 t242)).setCell ⟨gb247, 3, none⟩ (.int .u64 t243)).setCell ⟨gb247, 4, none⟩ (.int .i64 t244)).setCell ⟨gb247, 5, none⟩ (.int .i64 t245)).heap[gb230]? = some (.cells #[.int .u64 a1_0, .int .u64 a1_1, .int .u64 a1_2, .int .u64 a1_3, .int .i64 a1_4, .int .i64 a1_5] 36 (0, 0))) := ⟨by (with_reducible repeat (first | refine blk_drewN ?_ _ | refine blk_drew ?_ | refine blk_alloc ?_ _)); refine blk_far ?_ NB230_247.out _; refine blk_far ?_ NB230_247.out _; refine blk_far ?_ NB230_247.out _; refine blk_far ?_ NB230_247.out _; refine blk_far ?_ NB230_247.out _; refine blk_far ?_ NB230_247.out _; (with_reducible repeat (first | refine blk_drewN ?_ _ | refine blk_drew ?_ | refine blk_alloc ?_ _)); exact BK230.out⟩
        have n2_ : Aside0 (((((((w23.setCell ⟨gb247, 0, none⟩ (.int .u64 t240)).setCell ⟨gb247, 1, none⟩ (.int .u64 t241)).setCell ⟨gb247, 2, none⟩ (.int .u64 t242)).setCell ⟨gb247, 3, none⟩ (.int .u64 t243)).setCell ⟨gb247, 4, none⟩ (.int .i64 t244)).setCell ⟨gb247, 5, none⟩ (.int .i64 t245)).heap[gb239]? = some (.cells #[.int .u64 t232, .int .u64 t233, .int .u64 t234, .int .u64 t235, .int .i64 t236, .int .i64 t237] 36 (0, 0))) := ⟨by (with_reducible repeat (first | refine blk_drewN ?_ _ | refine blk_drew ?_ | refine blk_alloc ?_ _)); refine blk_far ?_ NB239_247.out _; refine blk_far ?_ NB239_247.out _; refine blk_far ?_ NB239_247.out _; refine blk_far ?_ NB239_247.out _; refine blk_far ?_ NB239_247.out _; refine blk_far ?_ NB239_247.out _; (with_reducible repeat (first | refine blk_drewN ?_ _ | refine blk_drew ?_ | refine blk_alloc ?_ _)); exact BK239.out⟩
        have n3_ : Aside0 (((((((w23.setCell ⟨gb247, 0, none⟩ (.int .u64 t240)).setCell ⟨gb247, 1, none⟩ (.int .u64 t241)).setCell ⟨gb247, 2, none⟩ (.int .u64 t242)).setCell ⟨gb247, 3, none⟩ (.int .u64 t243)).setCell ⟨gb247, 4, none⟩ (.int .i64 t244)).setCell ⟨gb247, 5, none⟩ (.int .i64 t245)).heap[gb247]? = some (.cells #[.int .u64 t240, .int .u64 t241, .int .u64 t242, .int .u64 t243, .int .i64 t244, .int .i64 t245] 36 (0, 0))) := ⟨by (with_reducible repeat (first | refine blk_drewN ?_ _ | refine blk_drew ?_ | refine blk_alloc ?_ _)); refine blk_put (cs := #[.int .u64 t240, .int .u64 t241, .int .u64 t242, .int .u64 t243, .int .i64 t244, .int .i64 0]) ?_ 5 _ rfl; refine blk_put (cs := #[.int .u64 t240, .int .u64 t241, .int .u64 t242, .int .u64 t243, .int .i64 0, .int .i64 0]) ?_ 4 _ rfl; refine blk_put (cs := #[.int .u64 t240, .int .u64 t241, .int .u64 t242, .int .u64 0, .int .i64 0, .int .i64 0]) ?_ 3 _ rfl; refine blk_put (cs := #[.int .u64 t240, .int .u64 t241, .int .u64 0, .int .u64 0, .int .i64 0, .int .i64 0]) ?_ 2 _ rfl; refine blk_put (cs := #[.int .u64 t240, .int .u64 0, .int .u64 0, .int .u64 0, .int .i64 0, .int .i64 0]) ?_ 1 _ rfl; refine blk_put (cs := #[.int .u64 0, .int .u64 0, .int .u64 0, .int .u64 0, .int .i64 0, .int .i64 0]) ?_ 0 _ rfl; (with_reducible repeat (first | refine blk_drewN ?_ _ | refine blk_drew ?_ | refine blk_alloc ?_ _)); exact BK247.out⟩
        have n4_ : Aside0 (Below w.heap.size w ((((((w23.setCell ⟨gb247, 0, none⟩ (.int .u64 t240)).setCell ⟨gb247, 1, none⟩ (.int .u64 t241)).setCell ⟨gb247, 2, none⟩ (.int .u64 t242)).setCell ⟨gb247, 3, none⟩ (.int .u64 t243)).setCell ⟨gb247, 4, none⟩ (.int .i64 t244)).setCell ⟨gb247, 5, none⟩ (.int .i64 t245))) := ⟨by repeat (first | (with_reducible first | exact HB.out | apply below_alloc | apply pw_below_drewN | apply below_drew1 | refine below_set ?_ GE229.out | refine below_set ?_ GE230.out | refine below_set ?_ GE239.out | refine below_set ?_ GE247.out) | exact HB.out)⟩
        (try clear BK229)
        (try clear BK230)
        (try clear BK239)
        (try clear BK247)
        (try clear HB)
        generalize ((((((w23.setCell ⟨gb247, 0, none⟩ (.int .u64 t240)).setCell ⟨gb247, 1, none⟩ (.int .u64 t241)).setCell ⟨gb247, 2, none⟩ (.int .u64 t242)).setCell ⟨gb247, 3, none⟩ (.int .u64 t243)).setCell ⟨gb247, 4, none⟩ (.int .i64 t244)).setCell ⟨gb247, 5, none⟩ (.int .i64 t245)) = w31 at n0_ n1_ n2_ n3_ n4_ ⊢
        have BK229 := n0_
        have BK230 := n1_
        have BK239 := n2_
        have BK247 := n3_
        have HB := n4_
        clear n0_ n1_ n2_ n3_ n4_
        have n0_ := Aside0.mk (blk_drew BK229.out)
        have n1_ := Aside0.mk (blk_drew BK230.out)
        have n2_ := Aside0.mk (blk_drew BK239.out)
        have n3_ := Aside0.mk (blk_drew BK247.out)
        have n4_ := Aside0.mk (below_drew1 HB.out)
        clear BK229
        clear BK230
        clear BK239
        clear BK247
        clear HB
        have BK229 := n0_
        have BK230 := n1_
        have BK239 := n2_
        have BK247 := n3_
        have HB := n4_
        clear n0_ n1_ n2_ n3_ n4_
        refine start_ (n := 10) (S := fun w' => w'.cell? ⟨gb239, 0, none⟩ = some (.int .u64 t232) ∧ w'.cell? ⟨gb239, 1, none⟩ = some (.int .u64 t233) ∧ w'.cell? ⟨gb239, 2, none⟩ = some (.int .u64 t234) ∧ w'.cell? ⟨gb239, 3, none⟩ = some (.int .u64 t235) ∧ w'.cell? ⟨gb239, 4, none⟩ = some (.int .i64 t236) ∧ w'.cell? ⟨gb239, 5, none⟩ = some (.int .i64 t237) ∧ w'.cell? ⟨gb229, 0, none⟩ = some (.int .u64 a0_0) ∧ w'.cell? ⟨gb229, 1, none⟩ = some (.int .u64 a0_1) ∧ w'.cell? ⟨gb229, 2, none⟩ = some (.int .u64 a0_2) ∧ w'.cell? ⟨gb229, 3, none⟩ = some (.int .u64 a0_3) ∧ w'.cell? ⟨gb229, 4, none⟩ = some (.int .i64 a0_4) ∧ w'.cell? ⟨gb229, 5, none⟩ = some (.int .i64 a0_5)) (ds := []) #[false, false, false, false, false, false, false, false, false, false] (by kernel_rfl) rfl rfl ⟨(blk_cell BK239.out 0).trans rfl, (blk_cell BK239.out 1).trans rfl, (blk_cell BK239.out 2).trans rfl, (blk_cell BK239.out 3).trans rfl, (blk_cell BK239.out 4).trans rfl, (blk_cell BK239.out 5).trans rfl, (blk_cell BK229.out 0).trans rfl, (blk_cell BK229.out 1).trans rfl, (blk_cell BK229.out 2).trans rfl, (blk_cell BK229.out 3).trans rfl, (blk_cell BK229.out 4).trans rfl, (blk_cell BK229.out 5).trans rfl⟩ (fun hHeld => ?_); refine with_tabW halberdlaw07_NumSound.tab5 halberdlaw07_NumSound.bits5 (fun HT_ HW_ => ?_)
        generalize w31.drew = w32 at BK229 BK230 BK239 BK247 HB hHeld ⊢
        refine pure_ (i := 0) (N := some 26) (v := ?_) (a' := ?_) #[true, false, false, false, false, false, false, false, false, false] rfl rfl (any_of HT_.out (by kernel_rfl)) (fun _ _ _ h => h) (Or.inl ⟨by rfl, ?_⟩) ?_ ?_
        rotate_left
        · intro w'
          go_simp
          with_reducible rfl
        rotate_left
        · simp only [Act.put, List.setIfInBounds_toArray, List.set_cons_zero, List.set_cons_succ, i64_w, i32_w]
          rfl
        refine pure_ (i := 1) (N := some 27) (v := ?_) (a' := ?_) #[true, true, false, false, false, false, false, false, false, false] rfl rfl (any_of HT_.out (by kernel_rfl)) (fun _ _ _ h => h) (Or.inl ⟨by rfl, ?_⟩) ?_ ?_
        rotate_left
        · intro w'
          go_simp
          with_reducible rfl
        rotate_left
        · simp only [Act.put, List.setIfInBounds_toArray, List.set_cons_zero, List.set_cons_succ, i64_w, i32_w]
          rfl
        refine pure_ (i := 3) (N := some 29) (v := ?_) (a' := ?_) #[true, true, false, true, false, false, false, false, false, false] rfl rfl (any_of HT_.out (by kernel_rfl)) (fun _ _ _ h => h) (Or.inl ⟨by rfl, ?_⟩) ?_ ?_
        rotate_left
        · intro w'
          go_simp
          with_reducible rfl
        rotate_left
        · simp only [Act.put, List.setIfInBounds_toArray, List.set_cons_zero, List.set_cons_succ, i64_w, i32_w]
          rfl
        refine pure_ (i := 6) (N := some 32) (v := ?_) (a' := ?_) #[true, true, false, true, false, false, true, false, false, false] rfl rfl (any_of HT_.out (by kernel_rfl)) (fun _ _ _ h => h) (Or.inl ⟨by rfl, ?_⟩) ?_ ?_
        rotate_left
        · intro w'
          go_simp
          with_reducible rfl
        rotate_left
        · simp only [Act.put, List.setIfInBounds_toArray, List.set_cons_zero, List.set_cons_succ, i64_w, i32_w]
          rfl
        refine take_ (i := 2) (N := some 28) (v := ?_) (a' := ?_) #[true, true, true, true, false, false, true, false, false, false] rfl rfl (take_ofW HT_.out HW_.out (by kernel_rfl)) (fun _ _ _ h => h) (Or.inl ⟨by rfl, ?_⟩) hHeld ?_ ?_
        rotate_left
        · rintro w' ⟨s0, s1, s2, s3, s4, s5, s6, s7, s8, s9, s10, s11⟩
          go_simp
          with_reducible rfl
        rotate_left
        · simp only [Act.put, List.setIfInBounds_toArray, List.set_cons_zero, List.set_cons_succ, i64_w, i32_w]
          rfl
        refine take_ (i := 5) (N := some 31) (v := ?_) (a' := ?_) #[true, true, true, true, false, true, true, false, false, false] rfl rfl (take_ofW HT_.out HW_.out (by kernel_rfl)) (fun _ _ _ h => h) (Or.inl ⟨by rfl, ?_⟩) hHeld ?_ ?_
        rotate_left
        · rintro w' ⟨s0, s1, s2, s3, s4, s5, s6, s7, s8, s9, s10, s11⟩
          go_simp
          with_reducible rfl
        rotate_left
        · simp only [Act.put, List.setIfInBounds_toArray, List.set_cons_zero, List.set_cons_succ, i64_w, i32_w]
          rfl
        refine one_ (i := 4) (N := some 30) #[true, true, true, true, true, true, true, false, false, false] rfl rfl (one_of HT_.out (by kernel_rfl)) (by decide) (fun K hK => ?_)
        refine goes_ Try.func22 (by kernel_rfl) rfl #[.agg #[.int .u64 t232, .int .u64 t233, .int .u64 t234, .int .u64 t235, .int .i64 t236, .int .i64 t237], .int .u64 a2] (by rfl) rfl rfl (by (try simp only [List.map_toArray, List.map_cons, List.map_nil]); first | done | rfl | (simp only [List.length_drop, List.length_take]; rfl)) ?_
        with_reducible refine (num_Has.calls t232 t233 t234 t235 t236 t237 a2 t248 _ A29.out).mono ?_
        rintro e w33 ⟨rfl, hb⟩
        refine ⟨_, rfl, ?_⟩
        have n0_ := Aside0.mk (blk_below (g := gb229) (o := .cells #[.int .u64 a0_0, .int .u64 a0_1, .int .u64 a0_2, .int .u64 a0_3, .int .i64 a0_4, .int .i64 a0_5] 36 (0, 0)) (by (with_reducible repeat (first | refine blk_drewN ?_ _ | refine blk_drew ?_ | refine blk_alloc ?_ _)); exact BK229.out) hb)
        have n1_ := Aside0.mk (blk_below (g := gb230) (o := .cells #[.int .u64 a1_0, .int .u64 a1_1, .int .u64 a1_2, .int .u64 a1_3, .int .i64 a1_4, .int .i64 a1_5] 36 (0, 0)) (by (with_reducible repeat (first | refine blk_drewN ?_ _ | refine blk_drew ?_ | refine blk_alloc ?_ _)); exact BK230.out) hb)
        have n2_ := Aside0.mk (blk_below (g := gb239) (o := .cells #[.int .u64 t232, .int .u64 t233, .int .u64 t234, .int .u64 t235, .int .i64 t236, .int .i64 t237] 36 (0, 0)) (by (with_reducible repeat (first | refine blk_drewN ?_ _ | refine blk_drew ?_ | refine blk_alloc ?_ _)); exact BK239.out) hb)
        have n3_ := Aside0.mk (blk_below (g := gb247) (o := .cells #[.int .u64 t240, .int .u64 t241, .int .u64 t242, .int .u64 t243, .int .i64 t244, .int .i64 t245] 36 (0, 0)) (by (with_reducible repeat (first | refine blk_drewN ?_ _ | refine blk_drew ?_ | refine blk_alloc ?_ _)); exact BK247.out) hb)
        have n4_ := Aside0.mk (below_step (by repeat (first | (with_reducible first | exact HB.out | apply below_alloc | apply pw_below_drewN | apply below_drew1 | refine below_set ?_ GE229.out | refine below_set ?_ GE230.out | refine below_set ?_ GE239.out | refine below_set ?_ GE247.out) | exact HB.out)) hb)
        clear BK229
        clear BK230
        clear BK239
        clear BK247
        clear HB
        have BK229 := n0_
        have BK230 := n1_
        have BK239 := n2_
        have BK247 := n3_
        have HB := n4_
        clear n0_ n1_ n2_ n3_ n4_
        (try clear hb)
        (try clear hb2)
        (try clear hk)
        (try clear hi)
        refine hK.out _ _ ⟨(blk_cell BK239.out 0).trans rfl, (blk_cell BK239.out 1).trans rfl, (blk_cell BK239.out 2).trans rfl, (blk_cell BK239.out 3).trans rfl, (blk_cell BK239.out 4).trans rfl, (blk_cell BK239.out 5).trans rfl, (blk_cell BK229.out 0).trans rfl, (blk_cell BK229.out 1).trans rfl, (blk_cell BK229.out 2).trans rfl, (blk_cell BK229.out 3).trans rfl, (blk_cell BK229.out 4).trans rfl, (blk_cell BK229.out 5).trans rfl⟩ (fun hHeld => ?_)
        clear hK K
        refine norm_ (a' := ?_) ?_ ?_
        rotate_left
        · show Act.put _ (some 30) _ = _
          simp only [Act.put, List.setIfInBounds_toArray, List.set_cons_zero, List.set_cons_succ, i64_w, i32_w]
          rfl
        refine one_ (i := 7) (N := some 33) #[true, true, true, true, true, true, true, true, false, false] rfl rfl (one_of HT_.out (by kernel_rfl)) (by decide) (fun K hK => ?_)
        refine goes_ Try.func22 (by kernel_rfl) rfl #[.agg #[.int .u64 a0_0, .int .u64 a0_1, .int .u64 a0_2, .int .u64 a0_3, .int .i64 a0_4, .int .i64 a0_5], .int .u64 a2] (by rfl) rfl rfl (by (try simp only [List.map_toArray, List.map_cons, List.map_nil]); first | done | rfl | (simp only [List.length_drop, List.length_take]; rfl)) ?_
        with_reducible refine (num_Has.calls a0_0 a0_1 a0_2 a0_3 a0_4 a0_5 a2 t249 _ A30.out).mono ?_
        rintro e w34 ⟨rfl, hb⟩
        refine ⟨_, rfl, ?_⟩
        have n0_ := Aside0.mk (blk_below (g := gb229) (o := .cells #[.int .u64 a0_0, .int .u64 a0_1, .int .u64 a0_2, .int .u64 a0_3, .int .i64 a0_4, .int .i64 a0_5] 36 (0, 0)) (by (with_reducible repeat (first | refine blk_drewN ?_ _ | refine blk_drew ?_ | refine blk_alloc ?_ _)); exact BK229.out) hb)
        have n1_ := Aside0.mk (blk_below (g := gb230) (o := .cells #[.int .u64 a1_0, .int .u64 a1_1, .int .u64 a1_2, .int .u64 a1_3, .int .i64 a1_4, .int .i64 a1_5] 36 (0, 0)) (by (with_reducible repeat (first | refine blk_drewN ?_ _ | refine blk_drew ?_ | refine blk_alloc ?_ _)); exact BK230.out) hb)
        have n2_ := Aside0.mk (blk_below (g := gb239) (o := .cells #[.int .u64 t232, .int .u64 t233, .int .u64 t234, .int .u64 t235, .int .i64 t236, .int .i64 t237] 36 (0, 0)) (by (with_reducible repeat (first | refine blk_drewN ?_ _ | refine blk_drew ?_ | refine blk_alloc ?_ _)); exact BK239.out) hb)
        have n3_ := Aside0.mk (blk_below (g := gb247) (o := .cells #[.int .u64 t240, .int .u64 t241, .int .u64 t242, .int .u64 t243, .int .i64 t244, .int .i64 t245] 36 (0, 0)) (by (with_reducible repeat (first | refine blk_drewN ?_ _ | refine blk_drew ?_ | refine blk_alloc ?_ _)); exact BK247.out) hb)
        have n4_ := Aside0.mk (below_step (by repeat (first | (with_reducible first | exact HB.out | apply below_alloc | apply pw_below_drewN | apply below_drew1 | refine below_set ?_ GE229.out | refine below_set ?_ GE230.out | refine below_set ?_ GE239.out | refine below_set ?_ GE247.out) | exact HB.out)) hb)
        clear BK229
        clear BK230
        clear BK239
        clear BK247
        clear HB
        have BK229 := n0_
        have BK230 := n1_
        have BK239 := n2_
        have BK247 := n3_
        have HB := n4_
        clear n0_ n1_ n2_ n3_ n4_
        (try clear hb)
        (try clear hb2)
        (try clear hk)
        (try clear hi)
        refine hK.out _ _ ⟨(blk_cell BK239.out 0).trans rfl, (blk_cell BK239.out 1).trans rfl, (blk_cell BK239.out 2).trans rfl, (blk_cell BK239.out 3).trans rfl, (blk_cell BK239.out 4).trans rfl, (blk_cell BK239.out 5).trans rfl, (blk_cell BK229.out 0).trans rfl, (blk_cell BK229.out 1).trans rfl, (blk_cell BK229.out 2).trans rfl, (blk_cell BK229.out 3).trans rfl, (blk_cell BK229.out 4).trans rfl, (blk_cell BK229.out 5).trans rfl⟩ (fun hHeld => ?_)
        clear hK K
        refine norm_ (a' := ?_) ?_ ?_
        rotate_left
        · show Act.put _ (some 33) _ = _
          simp only [Act.put, List.setIfInBounds_toArray, List.set_cons_zero, List.set_cons_succ, i64_w, i32_w]
          rfl
        refine pure_ (i := 8) (N := some 34) (v := ?_) (a' := ?_) #[true, true, true, true, true, true, true, true, true, false] rfl rfl (any_of HT_.out (by kernel_rfl)) (fun _ _ _ h => h) (Or.inl ⟨by rfl, ?_⟩) ?_ ?_
        rotate_left
        · intro w'
          go_simp
          with_reducible rfl
        rotate_left
        · simp only [Act.put, List.setIfInBounds_toArray, List.set_cons_zero, List.set_cons_succ, i64_w, i32_w]
          rfl
        refine pure_ (i := 9) (N := some 35) (v := ?_) (a' := ?_) #[true, true, true, true, true, true, true, true, true, true] rfl rfl (any_of HT_.out (by kernel_rfl)) (fun _ _ _ h => h) (Or.inl ⟨by rfl, ?_⟩) ?_ ?_
        rotate_left
        · intro w'
          go_simp
          with_reducible rfl
        rotate_left
        · simp only [Act.put, List.setIfInBounds_toArray, List.set_cons_zero, List.set_cons_succ, i64_w, i32_w]
          rfl
        refine done_ (done_of HT_.out (by kernel_rfl)) ?_
        try go_wp2
        go_meet
        case rel => exact ⟨_, ((t248 != t249)), (by first | rfl | (simp; done) | (simp [*]; done)), H', ⟨by first | omega | exact Nat.le_refl _⟩, ⟨by (with_reducible repeat (first | refine blk_drewN ?_ _ | refine blk_drew ?_ | refine blk_alloc ?_ _)); exact BK229.out⟩, ⟨by (with_reducible repeat (first | refine blk_drewN ?_ _ | refine blk_drew ?_ | refine blk_alloc ?_ _)); exact BK230.out⟩, ⟨by (with_reducible repeat (first | refine blk_drewN ?_ _ | refine blk_drew ?_ | refine blk_alloc ?_ _)); exact BK239.out⟩, ⟨by (with_reducible repeat (first | refine blk_drewN ?_ _ | refine blk_drew ?_ | refine blk_alloc ?_ _)); exact BK247.out⟩, ⟨by repeat (first | (with_reducible first | exact HB.out | apply below_alloc | apply pw_below_drewN | apply below_drew1 | refine below_set ?_ GE229.out | refine below_set ?_ GE230.out | refine below_set ?_ GE239.out | refine below_set ?_ GE247.out) | exact HB.out)⟩⟩
      · replace c28 := Bool.eq_false_iff.mpr c28
        subst c28
        have H1 : (halberdlaw07_NumSound.j0 k a2 a3 false t246 false a0_0 a0_1 a0_2 a0_3 a0_4 a0_5 a1_0 a1_1 a1_2 a1_3 a1_4 a1_5 t240 t241 t242 t243 t244 t245) = some r := by rw [if_neg (show ¬ (false = true) by decide)] at H; exact H
        clear H
        have H := H1
        clear H1
        have H' := Aside0.mk H
        clear H
        try go_wp2
        have n0_ : Aside0 (((((((w23.setCell ⟨gb247, 0, none⟩ (.int .u64 t240)).setCell ⟨gb247, 1, none⟩ (.int .u64 t241)).setCell ⟨gb247, 2, none⟩ (.int .u64 t242)).setCell ⟨gb247, 3, none⟩ (.int .u64 t243)).setCell ⟨gb247, 4, none⟩ (.int .i64 t244)).setCell ⟨gb247, 5, none⟩ (.int .i64 t245)).heap[gb229]? = some (.cells #[.int .u64 a0_0, .int .u64 a0_1, .int .u64 a0_2, .int .u64 a0_3, .int .i64 a0_4, .int .i64 a0_5] 36 (0, 0))) := ⟨by (with_reducible repeat (first | refine blk_drewN ?_ _ | refine blk_drew ?_ | refine blk_alloc ?_ _)); refine blk_far ?_ NB229_247.out _; refine blk_far ?_ NB229_247.out _; refine blk_far ?_ NB229_247.out _; refine blk_far ?_ NB229_247.out _; refine blk_far ?_ NB229_247.out _; refine blk_far ?_ NB229_247.out _; (with_reducible repeat (first | refine blk_drewN ?_ _ | refine blk_drew ?_ | refine blk_alloc ?_ _)); exact BK229.out⟩
        have n1_ : Aside0 (((((((w23.setCell ⟨gb247, 0, none⟩ (.int .u64 t240)).setCell ⟨gb247, 1, none⟩ (.int .u64 t241)).setCell ⟨gb247, 2, none⟩ (.int .u64 t242)).setCell ⟨gb247, 3, none⟩ (.int .u64 t243)).setCell ⟨gb247, 4, none⟩ (.int .i64 t244)).setCell ⟨gb247, 5, none⟩ (.int .i64 t245)).heap[gb230]? = some (.cells #[.int .u64 a1_0, .int .u64 a1_1, .int .u64 a1_2, .int .u64 a1_3, .int .i64 a1_4, .int .i64 a1_5] 36 (0, 0))) := ⟨by (with_reducible repeat (first | refine blk_drewN ?_ _ | refine blk_drew ?_ | refine blk_alloc ?_ _)); refine blk_far ?_ NB230_247.out _; refine blk_far ?_ NB230_247.out _; refine blk_far ?_ NB230_247.out _; refine blk_far ?_ NB230_247.out _; refine blk_far ?_ NB230_247.out _; refine blk_far ?_ NB230_247.out _; (with_reducible repeat (first | refine blk_drewN ?_ _ | refine blk_drew ?_ | refine blk_alloc ?_ _)); exact BK230.out⟩
        have n2_ : Aside0 (((((((w23.setCell ⟨gb247, 0, none⟩ (.int .u64 t240)).setCell ⟨gb247, 1, none⟩ (.int .u64 t241)).setCell ⟨gb247, 2, none⟩ (.int .u64 t242)).setCell ⟨gb247, 3, none⟩ (.int .u64 t243)).setCell ⟨gb247, 4, none⟩ (.int .i64 t244)).setCell ⟨gb247, 5, none⟩ (.int .i64 t245)).heap[gb239]? = some (.cells #[.int .u64 t232, .int .u64 t233, .int .u64 t234, .int .u64 t235, .int .i64 t236, .int .i64 t237] 36 (0, 0))) := ⟨by (with_reducible repeat (first | refine blk_drewN ?_ _ | refine blk_drew ?_ | refine blk_alloc ?_ _)); refine blk_far ?_ NB239_247.out _; refine blk_far ?_ NB239_247.out _; refine blk_far ?_ NB239_247.out _; refine blk_far ?_ NB239_247.out _; refine blk_far ?_ NB239_247.out _; refine blk_far ?_ NB239_247.out _; (with_reducible repeat (first | refine blk_drewN ?_ _ | refine blk_drew ?_ | refine blk_alloc ?_ _)); exact BK239.out⟩
        have n3_ : Aside0 (((((((w23.setCell ⟨gb247, 0, none⟩ (.int .u64 t240)).setCell ⟨gb247, 1, none⟩ (.int .u64 t241)).setCell ⟨gb247, 2, none⟩ (.int .u64 t242)).setCell ⟨gb247, 3, none⟩ (.int .u64 t243)).setCell ⟨gb247, 4, none⟩ (.int .i64 t244)).setCell ⟨gb247, 5, none⟩ (.int .i64 t245)).heap[gb247]? = some (.cells #[.int .u64 t240, .int .u64 t241, .int .u64 t242, .int .u64 t243, .int .i64 t244, .int .i64 t245] 36 (0, 0))) := ⟨by (with_reducible repeat (first | refine blk_drewN ?_ _ | refine blk_drew ?_ | refine blk_alloc ?_ _)); refine blk_put (cs := #[.int .u64 t240, .int .u64 t241, .int .u64 t242, .int .u64 t243, .int .i64 t244, .int .i64 0]) ?_ 5 _ rfl; refine blk_put (cs := #[.int .u64 t240, .int .u64 t241, .int .u64 t242, .int .u64 t243, .int .i64 0, .int .i64 0]) ?_ 4 _ rfl; refine blk_put (cs := #[.int .u64 t240, .int .u64 t241, .int .u64 t242, .int .u64 0, .int .i64 0, .int .i64 0]) ?_ 3 _ rfl; refine blk_put (cs := #[.int .u64 t240, .int .u64 t241, .int .u64 0, .int .u64 0, .int .i64 0, .int .i64 0]) ?_ 2 _ rfl; refine blk_put (cs := #[.int .u64 t240, .int .u64 0, .int .u64 0, .int .u64 0, .int .i64 0, .int .i64 0]) ?_ 1 _ rfl; refine blk_put (cs := #[.int .u64 0, .int .u64 0, .int .u64 0, .int .u64 0, .int .i64 0, .int .i64 0]) ?_ 0 _ rfl; (with_reducible repeat (first | refine blk_drewN ?_ _ | refine blk_drew ?_ | refine blk_alloc ?_ _)); exact BK247.out⟩
        have n4_ : Aside0 (Below w.heap.size w ((((((w23.setCell ⟨gb247, 0, none⟩ (.int .u64 t240)).setCell ⟨gb247, 1, none⟩ (.int .u64 t241)).setCell ⟨gb247, 2, none⟩ (.int .u64 t242)).setCell ⟨gb247, 3, none⟩ (.int .u64 t243)).setCell ⟨gb247, 4, none⟩ (.int .i64 t244)).setCell ⟨gb247, 5, none⟩ (.int .i64 t245))) := ⟨by repeat (first | (with_reducible first | exact HB.out | apply below_alloc | apply pw_below_drewN | apply below_drew1 | refine below_set ?_ GE229.out | refine below_set ?_ GE230.out | refine below_set ?_ GE239.out | refine below_set ?_ GE247.out) | exact HB.out)⟩
        (try clear BK229)
        (try clear BK230)
        (try clear BK239)
        (try clear BK247)
        (try clear HB)
        generalize ((((((w23.setCell ⟨gb247, 0, none⟩ (.int .u64 t240)).setCell ⟨gb247, 1, none⟩ (.int .u64 t241)).setCell ⟨gb247, 2, none⟩ (.int .u64 t242)).setCell ⟨gb247, 3, none⟩ (.int .u64 t243)).setCell ⟨gb247, 4, none⟩ (.int .i64 t244)).setCell ⟨gb247, 5, none⟩ (.int .i64 t245)) = w35 at n0_ n1_ n2_ n3_ n4_ ⊢
        have BK229 := n0_
        have BK230 := n1_
        have BK239 := n2_
        have BK247 := n3_
        have HB := n4_
        clear n0_ n1_ n2_ n3_ n4_
        have n0_ := Aside0.mk (blk_drew BK229.out)
        have n1_ := Aside0.mk (blk_drew BK230.out)
        have n2_ := Aside0.mk (blk_drew BK239.out)
        have n3_ := Aside0.mk (blk_drew BK247.out)
        have n4_ := Aside0.mk (below_drew1 HB.out)
        clear BK229
        clear BK230
        clear BK239
        clear BK247
        clear HB
        have BK229 := n0_
        have BK230 := n1_
        have BK239 := n2_
        have BK247 := n3_
        have HB := n4_
        clear n0_ n1_ n2_ n3_ n4_
        refine start_ (n := 10) (S := fun w' => True) (ds := []) #[false, false, false, false, false, false, false, false, false, false] (by kernel_rfl) rfl rfl trivial (fun hHeld => ?_); refine with_tabW halberdlaw07_NumSound.tab5 halberdlaw07_NumSound.bits5 (fun HT_ HW_ => ?_)
        generalize w35.drew = w36 at BK229 BK230 BK239 BK247 HB hHeld ⊢
        refine pure_ (i := 0) (N := some 26) (v := ?_) (a' := ?_) #[true, false, false, false, false, false, false, false, false, false] rfl rfl (any_of HT_.out (by kernel_rfl)) (fun _ _ _ h => h) (Or.inl ⟨by rfl, ?_⟩) ?_ ?_
        rotate_left
        · intro w'
          go_simp
          with_reducible rfl
        rotate_left
        · simp only [Act.put, List.setIfInBounds_toArray, List.set_cons_zero, List.set_cons_succ, i64_w, i32_w]
          rfl
        refine pure_ (i := 1) (N := some 27) (v := ?_) (a' := ?_) #[true, true, false, false, false, false, false, false, false, false] rfl rfl (any_of HT_.out (by kernel_rfl)) (fun _ _ _ h => h) (Or.inl ⟨by rfl, ?_⟩) ?_ ?_
        rotate_left
        · intro w'
          go_simp
          with_reducible rfl
        rotate_left
        · simp only [Act.put, List.setIfInBounds_toArray, List.set_cons_zero, List.set_cons_succ, i64_w, i32_w]
          rfl
        refine pure_ (i := 2) (N := some 28) (v := undef) (a' := ?_) #[true, true, true, false, false, false, false, false, false, false] rfl rfl (any_of HT_.out (by kernel_rfl)) (fun _ _ _ h => h) (Or.inr ⟨by rfl, rfl⟩) ?_ ?_
        rotate_left
        · simp only [Act.put, List.setIfInBounds_toArray, List.set_cons_zero, List.set_cons_succ, i64_w, i32_w]
          rfl
        refine pure_ (i := 3) (N := some 29) (v := undef) (a' := ?_) #[true, true, true, true, false, false, false, false, false, false] rfl rfl (any_of HT_.out (by kernel_rfl)) (fun _ _ _ h => h) (Or.inr ⟨by rfl, rfl⟩) ?_ ?_
        rotate_left
        · simp only [Act.put, List.setIfInBounds_toArray, List.set_cons_zero, List.set_cons_succ, i64_w, i32_w]
          rfl
        refine pure_ (i := 4) (N := some 30) (v := undef) (a' := ?_) #[true, true, true, true, true, false, false, false, false, false] rfl rfl (any_of HT_.out (by kernel_rfl)) (fun _ _ _ h => h) (Or.inr ⟨by rfl, rfl⟩) ?_ ?_
        rotate_left
        · simp only [Act.put, List.setIfInBounds_toArray, List.set_cons_zero, List.set_cons_succ, i64_w, i32_w]
          rfl
        refine pure_ (i := 5) (N := some 31) (v := undef) (a' := ?_) #[true, true, true, true, true, true, false, false, false, false] rfl rfl (any_of HT_.out (by kernel_rfl)) (fun _ _ _ h => h) (Or.inr ⟨by rfl, rfl⟩) ?_ ?_
        rotate_left
        · simp only [Act.put, List.setIfInBounds_toArray, List.set_cons_zero, List.set_cons_succ, i64_w, i32_w]
          rfl
        refine pure_ (i := 6) (N := some 32) (v := undef) (a' := ?_) #[true, true, true, true, true, true, true, false, false, false] rfl rfl (any_of HT_.out (by kernel_rfl)) (fun _ _ _ h => h) (Or.inr ⟨by rfl, rfl⟩) ?_ ?_
        rotate_left
        · simp only [Act.put, List.setIfInBounds_toArray, List.set_cons_zero, List.set_cons_succ, i64_w, i32_w]
          rfl
        refine pure_ (i := 7) (N := some 33) (v := undef) (a' := ?_) #[true, true, true, true, true, true, true, true, false, false] rfl rfl (any_of HT_.out (by kernel_rfl)) (fun _ _ _ h => h) (Or.inr ⟨by rfl, rfl⟩) ?_ ?_
        rotate_left
        · simp only [Act.put, List.setIfInBounds_toArray, List.set_cons_zero, List.set_cons_succ, i64_w, i32_w]
          rfl
        refine pure_ (i := 8) (N := some 34) (v := undef) (a' := ?_) #[true, true, true, true, true, true, true, true, true, false] rfl rfl (any_of HT_.out (by kernel_rfl)) (fun _ _ _ h => h) (Or.inr ⟨by rfl, rfl⟩) ?_ ?_
        rotate_left
        · simp only [Act.put, List.setIfInBounds_toArray, List.set_cons_zero, List.set_cons_succ, i64_w, i32_w]
          rfl
        refine pure_ (i := 9) (N := some 35) (v := ?_) (a' := ?_) #[true, true, true, true, true, true, true, true, true, true] rfl rfl (any_of HT_.out (by kernel_rfl)) (fun _ _ _ h => h) (Or.inl ⟨by rfl, ?_⟩) ?_ ?_
        rotate_left
        · intro w'
          go_simp
          with_reducible rfl
        rotate_left
        · simp only [Act.put, List.setIfInBounds_toArray, List.set_cons_zero, List.set_cons_succ, i64_w, i32_w]
          rfl
        refine done_ (done_of HT_.out (by kernel_rfl)) ?_
        try go_wp2
        go_meet
        case rel => exact ⟨_, (false), (by first | rfl | (simp; done) | (simp [*]; done)), H', ⟨by first | omega | exact Nat.le_refl _⟩, ⟨by (with_reducible repeat (first | refine blk_drewN ?_ _ | refine blk_drew ?_ | refine blk_alloc ?_ _)); exact BK229.out⟩, ⟨by (with_reducible repeat (first | refine blk_drewN ?_ _ | refine blk_drew ?_ | refine blk_alloc ?_ _)); exact BK230.out⟩, ⟨by (with_reducible repeat (first | refine blk_drewN ?_ _ | refine blk_drew ?_ | refine blk_alloc ?_ _)); exact BK239.out⟩, ⟨by (with_reducible repeat (first | refine blk_drewN ?_ _ | refine blk_drew ?_ | refine blk_alloc ?_ _)); exact BK247.out⟩, ⟨by repeat (first | (with_reducible first | exact HB.out | apply below_alloc | apply pw_below_drewN | apply below_drew1 | refine below_set ?_ GE229.out | refine below_set ?_ GE230.out | refine below_set ?_ GE239.out | refine below_set ?_ GE247.out) | exact HB.out)⟩⟩
    case rest =>
      clear HC9
      try clear c1
      try clear c2
      try clear p2
      try clear c6
      try clear c8
      try clear c13
      try clear c17
      try clear c18
      try clear c19
      try clear c21
      try clear c22
      try clear c24
      try clear c25
      try clear c26
      try clear c28
      try clear hcz14_0
      try clear hcz14_1
      try clear hcz14_2
      try clear hcz14_3
      try clear hcz14_4
      try clear hcz14_5
      try clear hcz19_0
      try clear hcz19_1
      try clear hcz19_2
      try clear hcz19_3
      try clear hcz19_4
      try clear hcz19_5
      try clear hcz20_0
      try clear hcz20_1
      try clear hcz20_2
      try clear hcz20_3
      try clear hcz20_4
      try clear hcz20_5
      try clear hcz21_0
      try clear hcz21_1
      try clear hcz21_2
      try clear hcz21_3
      try clear hcz21_4
      try clear hcz21_5
      try clear hcz27_0
      try clear hcz27_1
      try clear hcz27_2
      try clear hcz27_3
      try clear hcz27_4
      try clear hcz27_5
      try clear hfz14_0
      try clear hfz14_1
      try clear hfz14_2
      try clear hfz14_3
      try clear hfz14_4
      try clear hfz14_5
      try clear hfz19_0
      try clear hfz19_1
      try clear hfz19_2
      try clear hfz19_3
      try clear hfz19_4
      try clear hfz19_5
      try clear hfz20_0
      try clear hfz20_1
      try clear hfz20_2
      try clear hfz20_3
      try clear hfz20_4
      try clear hfz20_5
      try clear hfz21_0
      try clear hfz21_1
      try clear hfz21_2
      try clear hfz21_3
      try clear hfz21_4
      try clear hfz21_5
      try clear hfz27_0
      try clear hfz27_1
      try clear hfz27_2
      try clear hfz27_3
      try clear hfz27_4
      try clear hfz27_5
      obtain ⟨kq, x35_8, rfl, HA, HJ8, BK229, BK230, BK239, BK247, HB⟩ := hcut
      cases kq with
      | zero => exact absurd HA.out (by simp [halberdlaw07_NumSound.j0])
      | succ kj8 =>
        have H := HA.out
        clear HA
        simp only [halberdlaw07_NumSound.j0] at H
        by_cases c37 : x35_8 = true
        · subst c37
          have H1 : (some false) = some r := by rw [if_pos rfl] at H; exact H
          clear H
          have H := H1
          clear H1
          exact absurd (Option.some.inj H) (by rw [hr_.out]; decide)
        · replace c37 := Bool.eq_false_iff.mpr c37
          subst c37
          have H1 : ((num_Has.f a0_0 a0_1 a0_2 a0_3 a0_4 a0_5 a2).bind fun t250 => (if t250 = true then (if t238 = true then ((num_Cut.f kj8 a0_0 a0_1 a0_2 a0_3 a0_4 a0_5 a3).bind fun bt251 => ((halberdref01_Zext.f kj8 a2 a3).bind fun t257 => ((num_Has.f bt251.1 bt251.2.1 bt251.2.2.1 bt251.2.2.2.1 bt251.2.2.2.2.1 bt251.2.2.2.2.2 t257).bind fun t258 => (halberdlaw07_NumSound.j1 kj8 a2 t246 (!t258) a1_0 a1_1 a1_2 a1_3 a1_4 a1_5 t240 t241 t242 t243 t244 t245)))) else (halberdlaw07_NumSound.j1 kj8 a2 t246 true a1_0 a1_1 a1_2 a1_3 a1_4 a1_5 t240 t241 t242 t243 t244 t245)) else (some true))) = some r := by rw [if_neg (show ¬ (false = true) by decide)] at H; exact H
          clear H
          have H := H1
          clear H1
          replace H := Option.bind_eq_some_iff.mp H
          obtain ⟨t250, A380, H⟩ := H
          replace H : (if t250 = true then (if t238 = true then ((num_Cut.f kj8 a0_0 a0_1 a0_2 a0_3 a0_4 a0_5 a3).bind fun bt251 => ((halberdref01_Zext.f kj8 a2 a3).bind fun t257 => ((num_Has.f bt251.1 bt251.2.1 bt251.2.2.1 bt251.2.2.2.1 bt251.2.2.2.2.1 bt251.2.2.2.2.2 t257).bind fun t258 => (halberdlaw07_NumSound.j1 kj8 a2 t246 (!t258) a1_0 a1_1 a1_2 a1_3 a1_4 a1_5 t240 t241 t242 t243 t244 t245)))) else (halberdlaw07_NumSound.j1 kj8 a2 t246 true a1_0 a1_1 a1_2 a1_3 a1_4 a1_5 t240 t241 t242 t243 t244 t245)) else (some true)) = some r := H
          have A38 := Aside0.mk A380
          clear A380
          by_cases c39 : t250 = true
          · subst c39
            have H1 : (if t238 = true then ((num_Cut.f kj8 a0_0 a0_1 a0_2 a0_3 a0_4 a0_5 a3).bind fun bt251 => ((halberdref01_Zext.f kj8 a2 a3).bind fun t257 => ((num_Has.f bt251.1 bt251.2.1 bt251.2.2.1 bt251.2.2.2.1 bt251.2.2.2.2.1 bt251.2.2.2.2.2 t257).bind fun t258 => (halberdlaw07_NumSound.j1 kj8 a2 t246 (!t258) a1_0 a1_1 a1_2 a1_3 a1_4 a1_5 t240 t241 t242 t243 t244 t245)))) else (halberdlaw07_NumSound.j1 kj8 a2 t246 true a1_0 a1_1 a1_2 a1_3 a1_4 a1_5 t240 t241 t242 t243 t244 t245)) = some r := by rw [if_pos rfl] at H; exact H
            clear H
            have H := H1
            clear H1
            have HC40 := Aside0.mk H
            clear H
            have hnb41 := NB229_230.out
            have hnc41 := NB230_229.out
            have hnb42 := NB229_239.out
            have hnc42 := NB239_229.out
            have hnb43 := NB229_247.out
            have hnc43 := NB247_229.out
            have hcz44_0 : wc.cell? ⟨gb229, 0, none⟩ = some (.int .u64 a0_0) := (blk_cell BK229.out 0).trans rfl
            have hcz44_1 : wc.cell? ⟨gb229, 1, none⟩ = some (.int .u64 a0_1) := (blk_cell BK229.out 1).trans rfl
            have hcz44_2 : wc.cell? ⟨gb229, 2, none⟩ = some (.int .u64 a0_2) := (blk_cell BK229.out 2).trans rfl
            have hcz44_3 : wc.cell? ⟨gb229, 3, none⟩ = some (.int .u64 a0_3) := (blk_cell BK229.out 3).trans rfl
            have hcz44_4 : wc.cell? ⟨gb229, 4, none⟩ = some (.int .i64 a0_4) := (blk_cell BK229.out 4).trans rfl
            have hcz44_5 : wc.cell? ⟨gb229, 5, none⟩ = some (.int .i64 a0_5) := (blk_cell BK229.out 5).trans rfl
            have hfz44_0 := blk_frozen BK229.out 0
            have hfz44_1 := blk_frozen BK229.out 1
            have hfz44_2 := blk_frozen BK229.out 2
            have hfz44_3 := blk_frozen BK229.out 3
            have hfz44_4 := blk_frozen BK229.out 4
            have hfz44_5 := blk_frozen BK229.out 5
            go_upto_region 9 with (first | ((with_reducible refine gate_callee (f := 22) rfl ?_); refine goesL_ (some 38) rfl rfl Try.func22 (by kernel_rfl) rfl #[.agg #[.int .u64 a0_0, .int .u64 a0_1, .int .u64 a0_2, .int .u64 a0_3, .int .i64 a0_4, .int .i64 a0_5], .int .u64 a2] rfl (by (try simp only [List.map_toArray, List.map_cons, List.map_nil]); first | done | rfl | (simp only [List.length_drop, List.length_take]; rfl)) ?_; (with_reducible refine (num_Has.calls a0_0 a0_1 a0_2 a0_3 a0_4 a0_5 a2 true _ A38.out).mono ?_); rintro e w45 ⟨rfl, hb⟩; refine ⟨_, rfl, ?_⟩; have n0_ := Aside0.mk (blk_below (g := gb229) (o := .cells #[.int .u64 a0_0, .int .u64 a0_1, .int .u64 a0_2, .int .u64 a0_3, .int .i64 a0_4, .int .i64 a0_5] 36 (0, 0)) (by (with_reducible repeat (first | refine blk_drewN ?_ _ | refine blk_drew ?_ | refine blk_alloc ?_ _)); exact BK229.out) hb); have n1_ := Aside0.mk (blk_below (g := gb230) (o := .cells #[.int .u64 a1_0, .int .u64 a1_1, .int .u64 a1_2, .int .u64 a1_3, .int .i64 a1_4, .int .i64 a1_5] 36 (0, 0)) (by (with_reducible repeat (first | refine blk_drewN ?_ _ | refine blk_drew ?_ | refine blk_alloc ?_ _)); exact BK230.out) hb); have n2_ := Aside0.mk (blk_below (g := gb239) (o := .cells #[.int .u64 t232, .int .u64 t233, .int .u64 t234, .int .u64 t235, .int .i64 t236, .int .i64 t237] 36 (0, 0)) (by (with_reducible repeat (first | refine blk_drewN ?_ _ | refine blk_drew ?_ | refine blk_alloc ?_ _)); exact BK239.out) hb); have n3_ := Aside0.mk (blk_below (g := gb247) (o := .cells #[.int .u64 t240, .int .u64 t241, .int .u64 t242, .int .u64 t243, .int .i64 t244, .int .i64 t245] 36 (0, 0)) (by (with_reducible repeat (first | refine blk_drewN ?_ _ | refine blk_drew ?_ | refine blk_alloc ?_ _)); exact BK247.out) hb); have n4_ := Aside0.mk (below_step (by repeat (first | (with_reducible first | exact HB.out | apply below_alloc | apply pw_below_drewN | apply below_drew1 | refine below_set ?_ GE229.out | refine below_set ?_ GE230.out | refine below_set ?_ GE239.out | refine below_set ?_ GE247.out) | exact HB.out)) hb); clear BK229; clear BK230; clear BK239; clear BK247; clear HB; have BK229 := n0_; have BK230 := n1_; have BK239 := n2_; have BK247 := n3_; have HB := n4_; clear n0_ n1_ n2_ n3_ n4_; (try clear hb); (try clear hb2); (try clear hk); (try clear hi)))
            (try simp only [Act.put, List.setIfInBounds_toArray, List.set_cons_zero, List.set_cons_succ])
            go_cut [51] (fun v51 wc => ∃ (kq : Nat) (x51_39 : Bool), v51 = .bool x51_39 ∧ Aside0 (halberdlaw07_NumSound.j1 kq a2 t246 x51_39 a1_0 a1_1 a1_2 a1_3 a1_4 a1_5 t240 t241 t242 t243 t244 t245 = some r) ∧ Aside0 (kq ≤ kj8) ∧ Aside0 (wc.heap[gb229]? = some (.cells #[.int .u64 a0_0, .int .u64 a0_1, .int .u64 a0_2, .int .u64 a0_3, .int .i64 a0_4, .int .i64 a0_5] 36 (0, 0))) ∧ Aside0 (wc.heap[gb230]? = some (.cells #[.int .u64 a1_0, .int .u64 a1_1, .int .u64 a1_2, .int .u64 a1_3, .int .i64 a1_4, .int .i64 a1_5] 36 (0, 0))) ∧ Aside0 (wc.heap[gb239]? = some (.cells #[.int .u64 t232, .int .u64 t233, .int .u64 t234, .int .u64 t235, .int .i64 t236, .int .i64 t237] 36 (0, 0))) ∧ Aside0 (wc.heap[gb247]? = some (.cells #[.int .u64 t240, .int .u64 t241, .int .u64 t242, .int .u64 t243, .int .i64 t244, .int .i64 t245] 36 (0, 0))) ∧ Aside0 (Below w.heap.size w wc))
            case first =>
              have H := HC40.out
              clear HC40
              by_cases c46 : t238 = true
              · subst c46
                have H1 : ((num_Cut.f kj8 a0_0 a0_1 a0_2 a0_3 a0_4 a0_5 a3).bind fun bt251 => ((halberdref01_Zext.f kj8 a2 a3).bind fun t257 => ((num_Has.f bt251.1 bt251.2.1 bt251.2.2.1 bt251.2.2.2.1 bt251.2.2.2.2.1 bt251.2.2.2.2.2 t257).bind fun t258 => (halberdlaw07_NumSound.j1 kj8 a2 t246 (!t258) a1_0 a1_1 a1_2 a1_3 a1_4 a1_5 t240 t241 t242 t243 t244 t245)))) = some r := by rw [if_pos rfl] at H; exact H
                clear H
                have H := H1
                clear H1
                replace H := Option.bind_eq_some_iff.mp H
                obtain ⟨⟨t251, t252, t253, t254, t255, t256⟩, A470, H⟩ := H
                replace H : ((halberdref01_Zext.f kj8 a2 a3).bind fun t257 => ((num_Has.f t251 t252 t253 t254 t255 t256 t257).bind fun t258 => (halberdlaw07_NumSound.j1 kj8 a2 t246 (!t258) a1_0 a1_1 a1_2 a1_3 a1_4 a1_5 t240 t241 t242 t243 t244 t245))) = some r := H
                have A47 := Aside0.mk A470
                clear A470
                replace H := Option.bind_eq_some_iff.mp H
                obtain ⟨t257, A480, H⟩ := H
                replace H : ((num_Has.f t251 t252 t253 t254 t255 t256 t257).bind fun t258 => (halberdlaw07_NumSound.j1 kj8 a2 t246 (!t258) a1_0 a1_1 a1_2 a1_3 a1_4 a1_5 t240 t241 t242 t243 t244 t245)) = some r := H
                have A48 := Aside0.mk A480
                clear A480
                replace H := Option.bind_eq_some_iff.mp H
                obtain ⟨t258, A490, H⟩ := H
                replace H : (halberdlaw07_NumSound.j1 kj8 a2 t246 (!t258) a1_0 a1_1 a1_2 a1_3 a1_4 a1_5 t240 t241 t242 t243 t244 t245) = some r := H
                have A49 := Aside0.mk A490
                clear A490
                have H' := Aside0.mk H
                clear H
                have hnb50 := NB229_230.out
                have hnc50 := NB230_229.out
                have hnb51 := NB229_239.out
                have hnc51 := NB239_229.out
                have hnb52 := NB229_247.out
                have hnc52 := NB247_229.out
                have hcz53_0 : w45.cell? ⟨gb229, 0, none⟩ = some (.int .u64 a0_0) := (blk_cell BK229.out 0).trans rfl
                have hcz53_1 : w45.cell? ⟨gb229, 1, none⟩ = some (.int .u64 a0_1) := (blk_cell BK229.out 1).trans rfl
                have hcz53_2 : w45.cell? ⟨gb229, 2, none⟩ = some (.int .u64 a0_2) := (blk_cell BK229.out 2).trans rfl
                have hcz53_3 : w45.cell? ⟨gb229, 3, none⟩ = some (.int .u64 a0_3) := (blk_cell BK229.out 3).trans rfl
                have hcz53_4 : w45.cell? ⟨gb229, 4, none⟩ = some (.int .i64 a0_4) := (blk_cell BK229.out 4).trans rfl
                have hcz53_5 : w45.cell? ⟨gb229, 5, none⟩ = some (.int .i64 a0_5) := (blk_cell BK229.out 5).trans rfl
                have hfz53_0 := blk_frozen BK229.out 0
                have hfz53_1 := blk_frozen BK229.out 1
                have hfz53_2 := blk_frozen BK229.out 2
                have hfz53_3 := blk_frozen BK229.out 3
                have hfz53_4 := blk_frozen BK229.out 4
                have hfz53_5 := blk_frozen BK229.out 5
                go_wp2_with (first | (go_at_call 23; (with_reducible refine (num_Cut.calls kj8 a0_0 a0_1 a0_2 a0_3 a0_4 a0_5 a3 t251 t252 t253 t254 t255 t256 _ A47.out).mono ?_); rintro e w54 ⟨rfl, hb⟩; have n0_ := Aside0.mk (blk_below (g := gb229) (o := .cells #[.int .u64 a0_0, .int .u64 a0_1, .int .u64 a0_2, .int .u64 a0_3, .int .i64 a0_4, .int .i64 a0_5] 36 (0, 0)) (by (with_reducible repeat (first | refine blk_drewN ?_ _ | refine blk_drew ?_ | refine blk_alloc ?_ _)); exact BK229.out) hb); have n1_ := Aside0.mk (blk_below (g := gb230) (o := .cells #[.int .u64 a1_0, .int .u64 a1_1, .int .u64 a1_2, .int .u64 a1_3, .int .i64 a1_4, .int .i64 a1_5] 36 (0, 0)) (by (with_reducible repeat (first | refine blk_drewN ?_ _ | refine blk_drew ?_ | refine blk_alloc ?_ _)); exact BK230.out) hb); have n2_ := Aside0.mk (blk_below (g := gb239) (o := .cells #[.int .u64 t232, .int .u64 t233, .int .u64 t234, .int .u64 t235, .int .i64 t236, .int .i64 t237] 36 (0, 0)) (by (with_reducible repeat (first | refine blk_drewN ?_ _ | refine blk_drew ?_ | refine blk_alloc ?_ _)); exact BK239.out) hb); have n3_ := Aside0.mk (blk_below (g := gb247) (o := .cells #[.int .u64 t240, .int .u64 t241, .int .u64 t242, .int .u64 t243, .int .i64 t244, .int .i64 t245] 36 (0, 0)) (by (with_reducible repeat (first | refine blk_drewN ?_ _ | refine blk_drew ?_ | refine blk_alloc ?_ _)); exact BK247.out) hb); have n4_ := Aside0.mk (below_step (by repeat (first | (with_reducible first | exact HB.out | apply below_alloc | apply pw_below_drewN | apply below_drew1 | refine below_set ?_ GE229.out | refine below_set ?_ GE230.out | refine below_set ?_ GE239.out | refine below_set ?_ GE247.out) | exact HB.out)) hb); clear BK229; clear BK230; clear BK239; clear BK247; clear HB; have BK229 := n0_; have BK230 := n1_; have BK239 := n2_; have BK247 := n3_; have HB := n4_; clear n0_ n1_ n2_ n3_ n4_; (try clear hb); (try clear hb2); (try clear hk); (try clear hi)) | (go_at_call 24; (with_reducible refine (halberdref01_Zext.calls kj8 a2 a3 t257 _ A48.out).mono ?_); rintro e w' ⟨rfl, ⟨nd, rfl⟩⟩) | (go_at_call 22; (with_reducible refine (num_Has.calls t251 t252 t253 t254 t255 t256 t257 t258 _ A49.out).mono ?_); rintro e w55 ⟨rfl, hb⟩; have n0_ := Aside0.mk (blk_below (g := gb229) (o := .cells #[.int .u64 a0_0, .int .u64 a0_1, .int .u64 a0_2, .int .u64 a0_3, .int .i64 a0_4, .int .i64 a0_5] 36 (0, 0)) (by (with_reducible repeat (first | refine blk_drewN ?_ _ | refine blk_drew ?_ | refine blk_alloc ?_ _)); exact BK229.out) hb); have n1_ := Aside0.mk (blk_below (g := gb230) (o := .cells #[.int .u64 a1_0, .int .u64 a1_1, .int .u64 a1_2, .int .u64 a1_3, .int .i64 a1_4, .int .i64 a1_5] 36 (0, 0)) (by (with_reducible repeat (first | refine blk_drewN ?_ _ | refine blk_drew ?_ | refine blk_alloc ?_ _)); exact BK230.out) hb); have n2_ := Aside0.mk (blk_below (g := gb239) (o := .cells #[.int .u64 t232, .int .u64 t233, .int .u64 t234, .int .u64 t235, .int .i64 t236, .int .i64 t237] 36 (0, 0)) (by (with_reducible repeat (first | refine blk_drewN ?_ _ | refine blk_drew ?_ | refine blk_alloc ?_ _)); exact BK239.out) hb); have n3_ := Aside0.mk (blk_below (g := gb247) (o := .cells #[.int .u64 t240, .int .u64 t241, .int .u64 t242, .int .u64 t243, .int .i64 t244, .int .i64 t245] 36 (0, 0)) (by (with_reducible repeat (first | refine blk_drewN ?_ _ | refine blk_drew ?_ | refine blk_alloc ?_ _)); exact BK247.out) hb); have n4_ := Aside0.mk (below_step (by repeat (first | (with_reducible first | exact HB.out | apply below_alloc | apply pw_below_drewN | apply below_drew1 | refine below_set ?_ GE229.out | refine below_set ?_ GE230.out | refine below_set ?_ GE239.out | refine below_set ?_ GE247.out) | exact HB.out)) hb); clear BK229; clear BK230; clear BK239; clear BK247; clear HB; have BK229 := n0_; have BK230 := n1_; have BK239 := n2_; have BK247 := n3_; have HB := n4_; clear n0_ n1_ n2_ n3_ n4_; (try clear hb); (try clear hb2); (try clear hk); (try clear hi)))
                go_meet
                case rel => exact ⟨_, (!t258), (by first | rfl | (simp; done) | (simp [*]; done)), H', ⟨by have := HJ8.out; first | omega | exact Nat.le_refl _⟩, ⟨by (with_reducible repeat (first | refine blk_drewN ?_ _ | refine blk_drew ?_ | refine blk_alloc ?_ _)); exact BK229.out⟩, ⟨by (with_reducible repeat (first | refine blk_drewN ?_ _ | refine blk_drew ?_ | refine blk_alloc ?_ _)); exact BK230.out⟩, ⟨by (with_reducible repeat (first | refine blk_drewN ?_ _ | refine blk_drew ?_ | refine blk_alloc ?_ _)); exact BK239.out⟩, ⟨by (with_reducible repeat (first | refine blk_drewN ?_ _ | refine blk_drew ?_ | refine blk_alloc ?_ _)); exact BK247.out⟩, ⟨by repeat (first | (with_reducible first | exact HB.out | apply below_alloc | apply pw_below_drewN | apply below_drew1 | refine below_set ?_ GE229.out | refine below_set ?_ GE230.out | refine below_set ?_ GE239.out | refine below_set ?_ GE247.out) | exact HB.out)⟩⟩
              · replace c46 := Bool.eq_false_iff.mpr c46
                subst c46
                have H1 : (halberdlaw07_NumSound.j1 kj8 a2 t246 true a1_0 a1_1 a1_2 a1_3 a1_4 a1_5 t240 t241 t242 t243 t244 t245) = some r := by rw [if_neg (show ¬ (false = true) by decide)] at H; exact H
                clear H
                have H := H1
                clear H1
                have H' := Aside0.mk H
                clear H
                go_wp2
                go_meet
                case rel => exact ⟨_, (true), (by first | rfl | (simp; done) | (simp [*]; done)), H', ⟨by have := HJ8.out; first | omega | exact Nat.le_refl _⟩, ⟨by (with_reducible repeat (first | refine blk_drewN ?_ _ | refine blk_drew ?_ | refine blk_alloc ?_ _)); exact BK229.out⟩, ⟨by (with_reducible repeat (first | refine blk_drewN ?_ _ | refine blk_drew ?_ | refine blk_alloc ?_ _)); exact BK230.out⟩, ⟨by (with_reducible repeat (first | refine blk_drewN ?_ _ | refine blk_drew ?_ | refine blk_alloc ?_ _)); exact BK239.out⟩, ⟨by (with_reducible repeat (first | refine blk_drewN ?_ _ | refine blk_drew ?_ | refine blk_alloc ?_ _)); exact BK247.out⟩, ⟨by repeat (first | (with_reducible first | exact HB.out | apply below_alloc | apply pw_below_drewN | apply below_drew1 | refine below_set ?_ GE229.out | refine below_set ?_ GE230.out | refine below_set ?_ GE239.out | refine below_set ?_ GE247.out) | exact HB.out)⟩⟩
            case rest =>
              clear HC40
              try clear c1
              try clear c2
              try clear p2
              try clear c3
              try clear c4
              try clear c5
              try clear c6
              try clear c8
              try clear c13
              try clear c17
              try clear c18
              try clear c19
              try clear c21
              try clear c22
              try clear c24
              try clear c25
              try clear c26
              try clear c28
              try clear c37
              try clear c39
              try clear c41
              try clear c42
              try clear c43
              try clear c46
              try clear c50
              try clear c51
              try clear c52
              try clear hcz14_0
              try clear hcz14_1
              try clear hcz14_2
              try clear hcz14_3
              try clear hcz14_4
              try clear hcz14_5
              try clear hcz19_0
              try clear hcz19_1
              try clear hcz19_2
              try clear hcz19_3
              try clear hcz19_4
              try clear hcz19_5
              try clear hcz20_0
              try clear hcz20_1
              try clear hcz20_2
              try clear hcz20_3
              try clear hcz20_4
              try clear hcz20_5
              try clear hcz21_0
              try clear hcz21_1
              try clear hcz21_2
              try clear hcz21_3
              try clear hcz21_4
              try clear hcz21_5
              try clear hcz27_0
              try clear hcz27_1
              try clear hcz27_2
              try clear hcz27_3
              try clear hcz27_4
              try clear hcz27_5
              try clear hcz44_0
              try clear hcz44_1
              try clear hcz44_2
              try clear hcz44_3
              try clear hcz44_4
              try clear hcz44_5
              try clear hcz53_0
              try clear hcz53_1
              try clear hcz53_2
              try clear hcz53_3
              try clear hcz53_4
              try clear hcz53_5
              try clear hfz14_0
              try clear hfz14_1
              try clear hfz14_2
              try clear hfz14_3
              try clear hfz14_4
              try clear hfz14_5
              try clear hfz19_0
              try clear hfz19_1
              try clear hfz19_2
              try clear hfz19_3
              try clear hfz19_4
              try clear hfz19_5
              try clear hfz20_0
              try clear hfz20_1
              try clear hfz20_2
              try clear hfz20_3
              try clear hfz20_4
              try clear hfz20_5
              try clear hfz21_0
              try clear hfz21_1
              try clear hfz21_2
              try clear hfz21_3
              try clear hfz21_4
              try clear hfz21_5
              try clear hfz27_0
              try clear hfz27_1
              try clear hfz27_2
              try clear hfz27_3
              try clear hfz27_4
              try clear hfz27_5
              try clear hfz44_0
              try clear hfz44_1
              try clear hfz44_2
              try clear hfz44_3
              try clear hfz44_4
              try clear hfz44_5
              try clear hfz53_0
              try clear hfz53_1
              try clear hfz53_2
              try clear hfz53_3
              try clear hfz53_4
              try clear hfz53_5
              try clear p2
              obtain ⟨kq, x51_39, rfl, HA, HJ39, BK229, BK230, BK239, BK247, HB⟩ := hcut
              cases kq with
              | zero => exact absurd HA.out (by simp [halberdlaw07_NumSound.j1])
              | succ kj39 =>
                have H := HA.out
                clear HA
                simp only [halberdlaw07_NumSound.j1] at H
                by_cases c56 : x51_39 = true
                · subst c56
                  have H1 : (some false) = some r := by rw [if_pos rfl] at H; exact H
                  clear H
                  have H := H1
                  clear H1
                  exact absurd (Option.some.inj H) (by rw [hr_.out]; decide)
                · replace c56 := Bool.eq_false_iff.mpr c56
                  subst c56
                  have H1 : ((num_Has.f a1_0 a1_1 a1_2 a1_3 a1_4 a1_5 a2).bind fun t259 => (if t259 = true then (if t246 = true then ((num_Has.f t240 t241 t242 t243 t244 t245 a2).bind fun t260 => (some t260)) else (some false)) else (some true))) = some r := by rw [if_neg (show ¬ (false = true) by decide)] at H; exact H
                  clear H
                  have H := H1
                  clear H1
                  replace H := Option.bind_eq_some_iff.mp H
                  obtain ⟨t259, A570, H⟩ := H
                  replace H : (if t259 = true then (if t246 = true then ((num_Has.f t240 t241 t242 t243 t244 t245 a2).bind fun t260 => (some t260)) else (some false)) else (some true)) = some r := H
                  have A57 := Aside0.mk A570
                  clear A570
                  by_cases c58 : t259 = true
                  · subst c58
                    have H1 : (if t246 = true then ((num_Has.f t240 t241 t242 t243 t244 t245 a2).bind fun t260 => (some t260)) else (some false)) = some r := by rw [if_pos rfl] at H; exact H
                    clear H
                    have H := H1
                    clear H1
                    by_cases c59 : t246 = true
                    · subst c59
                      have H1 : ((num_Has.f t240 t241 t242 t243 t244 t245 a2).bind fun t260 => (some t260)) = some r := by rw [if_pos rfl] at H; exact H
                      clear H
                      have H := H1
                      clear H1
                      replace H := Option.bind_eq_some_iff.mp H
                      obtain ⟨t260, A600, H⟩ := H
                      replace H : (some t260) = some r := H
                      have A60 := Aside0.mk A600
                      clear A600
                      obtain rfl := Option.some.inj H
                      have hnb61 := NB230_229.out
                      have hnc61 := NB229_230.out
                      have hnb62 := NB230_239.out
                      have hnc62 := NB239_230.out
                      have hnb63 := NB230_247.out
                      have hnc63 := NB247_230.out
                      have hcz64_0 : wc.cell? ⟨gb230, 0, none⟩ = some (.int .u64 a1_0) := (blk_cell BK230.out 0).trans rfl
                      have hcz64_1 : wc.cell? ⟨gb230, 1, none⟩ = some (.int .u64 a1_1) := (blk_cell BK230.out 1).trans rfl
                      have hcz64_2 : wc.cell? ⟨gb230, 2, none⟩ = some (.int .u64 a1_2) := (blk_cell BK230.out 2).trans rfl
                      have hcz64_3 : wc.cell? ⟨gb230, 3, none⟩ = some (.int .u64 a1_3) := (blk_cell BK230.out 3).trans rfl
                      have hcz64_4 : wc.cell? ⟨gb230, 4, none⟩ = some (.int .i64 a1_4) := (blk_cell BK230.out 4).trans rfl
                      have hcz64_5 : wc.cell? ⟨gb230, 5, none⟩ = some (.int .i64 a1_5) := (blk_cell BK230.out 5).trans rfl
                      have hfz64_0 := blk_frozen BK230.out 0
                      have hfz64_1 := blk_frozen BK230.out 1
                      have hfz64_2 := blk_frozen BK230.out 2
                      have hfz64_3 := blk_frozen BK230.out 3
                      have hfz64_4 := blk_frozen BK230.out 4
                      have hfz64_5 := blk_frozen BK230.out 5
                      go_wp2_with (first | ((with_reducible refine gate_callee (f := 22) rfl ?_); refine goesL_ (some 54) rfl rfl Try.func22 (by kernel_rfl) rfl #[.agg #[.int .u64 a1_0, .int .u64 a1_1, .int .u64 a1_2, .int .u64 a1_3, .int .i64 a1_4, .int .i64 a1_5], .int .u64 a2] rfl (by (try simp only [List.map_toArray, List.map_cons, List.map_nil]); first | done | rfl | (simp only [List.length_drop, List.length_take]; rfl)) ?_; (with_reducible refine (num_Has.calls a1_0 a1_1 a1_2 a1_3 a1_4 a1_5 a2 true _ A57.out).mono ?_); rintro e w65 ⟨rfl, hb⟩; refine ⟨_, rfl, ?_⟩; have n0_ := Aside0.mk (blk_below (g := gb229) (o := .cells #[.int .u64 a0_0, .int .u64 a0_1, .int .u64 a0_2, .int .u64 a0_3, .int .i64 a0_4, .int .i64 a0_5] 36 (0, 0)) (by (with_reducible repeat (first | refine blk_drewN ?_ _ | refine blk_drew ?_ | refine blk_alloc ?_ _)); exact BK229.out) hb); have n1_ := Aside0.mk (blk_below (g := gb230) (o := .cells #[.int .u64 a1_0, .int .u64 a1_1, .int .u64 a1_2, .int .u64 a1_3, .int .i64 a1_4, .int .i64 a1_5] 36 (0, 0)) (by (with_reducible repeat (first | refine blk_drewN ?_ _ | refine blk_drew ?_ | refine blk_alloc ?_ _)); exact BK230.out) hb); have n2_ := Aside0.mk (blk_below (g := gb239) (o := .cells #[.int .u64 t232, .int .u64 t233, .int .u64 t234, .int .u64 t235, .int .i64 t236, .int .i64 t237] 36 (0, 0)) (by (with_reducible repeat (first | refine blk_drewN ?_ _ | refine blk_drew ?_ | refine blk_alloc ?_ _)); exact BK239.out) hb); have n3_ := Aside0.mk (blk_below (g := gb247) (o := .cells #[.int .u64 t240, .int .u64 t241, .int .u64 t242, .int .u64 t243, .int .i64 t244, .int .i64 t245] 36 (0, 0)) (by (with_reducible repeat (first | refine blk_drewN ?_ _ | refine blk_drew ?_ | refine blk_alloc ?_ _)); exact BK247.out) hb); have n4_ := Aside0.mk (below_step (by repeat (first | (with_reducible first | exact HB.out | apply below_alloc | apply pw_below_drewN | apply below_drew1 | refine below_set ?_ GE229.out | refine below_set ?_ GE230.out | refine below_set ?_ GE239.out | refine below_set ?_ GE247.out) | exact HB.out)) hb); clear BK229; clear BK230; clear BK239; clear BK247; clear HB; have BK229 := n0_; have BK230 := n1_; have BK239 := n2_; have BK247 := n3_; have HB := n4_; clear n0_ n1_ n2_ n3_ n4_; (try clear hb); (try clear hb2); (try clear hk); (try clear hi); have hnb66 := NB247_229.out; have hnc66 := NB229_247.out; have hnb67 := NB247_239.out; have hnc67 := NB239_247.out; have hcz68_0 : w65.cell? ⟨gb247, 0, none⟩ = some (.int .u64 t240) := (blk_cell BK247.out 0).trans rfl; have hcz68_1 : w65.cell? ⟨gb247, 1, none⟩ = some (.int .u64 t241) := (blk_cell BK247.out 1).trans rfl; have hcz68_2 : w65.cell? ⟨gb247, 2, none⟩ = some (.int .u64 t242) := (blk_cell BK247.out 2).trans rfl; have hcz68_3 : w65.cell? ⟨gb247, 3, none⟩ = some (.int .u64 t243) := (blk_cell BK247.out 3).trans rfl; have hcz68_4 : w65.cell? ⟨gb247, 4, none⟩ = some (.int .i64 t244) := (blk_cell BK247.out 4).trans rfl; have hcz68_5 : w65.cell? ⟨gb247, 5, none⟩ = some (.int .i64 t245) := (blk_cell BK247.out 5).trans rfl; have hfz68_0 := blk_frozen BK247.out 0; have hfz68_1 := blk_frozen BK247.out 1; have hfz68_2 := blk_frozen BK247.out 2; have hfz68_3 := blk_frozen BK247.out 3; have hfz68_4 := blk_frozen BK247.out 4; have hfz68_5 := blk_frozen BK247.out 5) | (go_at_call 22; (with_reducible refine (num_Has.calls t240 t241 t242 t243 t244 t245 a2 t260 _ A60.out).mono ?_); rintro e w69 ⟨rfl, hb⟩; have n0_ := Aside0.mk (blk_below (g := gb229) (o := .cells #[.int .u64 a0_0, .int .u64 a0_1, .int .u64 a0_2, .int .u64 a0_3, .int .i64 a0_4, .int .i64 a0_5] 36 (0, 0)) (by (with_reducible repeat (first | refine blk_drewN ?_ _ | refine blk_drew ?_ | refine blk_alloc ?_ _)); exact BK229.out) hb); have n1_ := Aside0.mk (blk_below (g := gb230) (o := .cells #[.int .u64 a1_0, .int .u64 a1_1, .int .u64 a1_2, .int .u64 a1_3, .int .i64 a1_4, .int .i64 a1_5] 36 (0, 0)) (by (with_reducible repeat (first | refine blk_drewN ?_ _ | refine blk_drew ?_ | refine blk_alloc ?_ _)); exact BK230.out) hb); have n2_ := Aside0.mk (blk_below (g := gb239) (o := .cells #[.int .u64 t232, .int .u64 t233, .int .u64 t234, .int .u64 t235, .int .i64 t236, .int .i64 t237] 36 (0, 0)) (by (with_reducible repeat (first | refine blk_drewN ?_ _ | refine blk_drew ?_ | refine blk_alloc ?_ _)); exact BK239.out) hb); have n3_ := Aside0.mk (blk_below (g := gb247) (o := .cells #[.int .u64 t240, .int .u64 t241, .int .u64 t242, .int .u64 t243, .int .i64 t244, .int .i64 t245] 36 (0, 0)) (by (with_reducible repeat (first | refine blk_drewN ?_ _ | refine blk_drew ?_ | refine blk_alloc ?_ _)); exact BK247.out) hb); have n4_ := Aside0.mk (below_step (by repeat (first | (with_reducible first | exact HB.out | apply below_alloc | apply pw_below_drewN | apply below_drew1 | refine below_set ?_ GE229.out | refine below_set ?_ GE230.out | refine below_set ?_ GE239.out | refine below_set ?_ GE247.out) | exact HB.out)) hb); clear BK229; clear BK230; clear BK239; clear BK247; clear HB; have BK229 := n0_; have BK230 := n1_; have BK239 := n2_; have BK247 := n3_; have HB := n4_; clear n0_ n1_ n2_ n3_ n4_; (try clear hb); (try clear hb2); (try clear hk); (try clear hi)) | (go_at_call 22; (with_reducible refine (num_Has.calls a1_0 a1_1 a1_2 a1_3 a1_4 a1_5 a2 true _ A57.out).mono ?_); rintro e w65 ⟨rfl, hb⟩; have n0_ := Aside0.mk (blk_below (g := gb229) (o := .cells #[.int .u64 a0_0, .int .u64 a0_1, .int .u64 a0_2, .int .u64 a0_3, .int .i64 a0_4, .int .i64 a0_5] 36 (0, 0)) (by (with_reducible repeat (first | refine blk_drewN ?_ _ | refine blk_drew ?_ | refine blk_alloc ?_ _)); exact BK229.out) hb); have n1_ := Aside0.mk (blk_below (g := gb230) (o := .cells #[.int .u64 a1_0, .int .u64 a1_1, .int .u64 a1_2, .int .u64 a1_3, .int .i64 a1_4, .int .i64 a1_5] 36 (0, 0)) (by (with_reducible repeat (first | refine blk_drewN ?_ _ | refine blk_drew ?_ | refine blk_alloc ?_ _)); exact BK230.out) hb); have n2_ := Aside0.mk (blk_below (g := gb239) (o := .cells #[.int .u64 t232, .int .u64 t233, .int .u64 t234, .int .u64 t235, .int .i64 t236, .int .i64 t237] 36 (0, 0)) (by (with_reducible repeat (first | refine blk_drewN ?_ _ | refine blk_drew ?_ | refine blk_alloc ?_ _)); exact BK239.out) hb); have n3_ := Aside0.mk (blk_below (g := gb247) (o := .cells #[.int .u64 t240, .int .u64 t241, .int .u64 t242, .int .u64 t243, .int .i64 t244, .int .i64 t245] 36 (0, 0)) (by (with_reducible repeat (first | refine blk_drewN ?_ _ | refine blk_drew ?_ | refine blk_alloc ?_ _)); exact BK247.out) hb); have n4_ := Aside0.mk (below_step (by repeat (first | (with_reducible first | exact HB.out | apply below_alloc | apply pw_below_drewN | apply below_drew1 | refine below_set ?_ GE229.out | refine below_set ?_ GE230.out | refine below_set ?_ GE239.out | refine below_set ?_ GE247.out) | exact HB.out)) hb); clear BK229; clear BK230; clear BK239; clear BK247; clear HB; have BK229 := n0_; have BK230 := n1_; have BK239 := n2_; have BK247 := n3_; have HB := n4_; clear n0_ n1_ n2_ n3_ n4_; (try clear hb); (try clear hb2); (try clear hk); (try clear hi); have hnb66 := NB247_229.out; have hnc66 := NB229_247.out; have hnb67 := NB247_239.out; have hnc67 := NB239_247.out; have hcz68_0 : w65.cell? ⟨gb247, 0, none⟩ = some (.int .u64 t240) := (blk_cell BK247.out 0).trans rfl; have hcz68_1 : w65.cell? ⟨gb247, 1, none⟩ = some (.int .u64 t241) := (blk_cell BK247.out 1).trans rfl; have hcz68_2 : w65.cell? ⟨gb247, 2, none⟩ = some (.int .u64 t242) := (blk_cell BK247.out 2).trans rfl; have hcz68_3 : w65.cell? ⟨gb247, 3, none⟩ = some (.int .u64 t243) := (blk_cell BK247.out 3).trans rfl; have hcz68_4 : w65.cell? ⟨gb247, 4, none⟩ = some (.int .i64 t244) := (blk_cell BK247.out 4).trans rfl; have hcz68_5 : w65.cell? ⟨gb247, 5, none⟩ = some (.int .i64 t245) := (blk_cell BK247.out 5).trans rfl; have hfz68_0 := blk_frozen BK247.out 0; have hfz68_1 := blk_frozen BK247.out 1; have hfz68_2 := blk_frozen BK247.out 2; have hfz68_3 := blk_frozen BK247.out 3; have hfz68_4 := blk_frozen BK247.out 4; have hfz68_5 := blk_frozen BK247.out 5))
                      go_ret
                      exact ⟨by first | rfl | (simp [errW_none, errW_some] <;> rfl) | (simp [*, errW_none, errW_some] <;> rfl), by repeat (first | (with_reducible first | exact HB.out | apply below_alloc | apply pw_below_drewN | apply below_drew1 | refine below_set ?_ GE229.out | refine below_set ?_ GE230.out | refine below_set ?_ GE239.out | refine below_set ?_ GE247.out) | exact HB.out)⟩
                    · replace c59 := Bool.eq_false_iff.mpr c59
                      subst c59
                      have H1 : (some false) = some r := by rw [if_neg (show ¬ (false = true) by decide)] at H; exact H
                      clear H
                      have H := H1
                      clear H1
                      exact absurd (Option.some.inj H) (by rw [hr_.out]; decide)
                  · replace c58 := Bool.eq_false_iff.mpr c58
                    subst c58
                    have H1 : (some true) = some r := by rw [if_neg (show ¬ (false = true) by decide)] at H; exact H
                    clear H
                    have H := H1
                    clear H1
                    obtain rfl := Option.some.inj H
                    have hnb70 := NB230_229.out
                    have hnc70 := NB229_230.out
                    have hnb71 := NB230_239.out
                    have hnc71 := NB239_230.out
                    have hnb72 := NB230_247.out
                    have hnc72 := NB247_230.out
                    have hcz73_0 : wc.cell? ⟨gb230, 0, none⟩ = some (.int .u64 a1_0) := (blk_cell BK230.out 0).trans rfl
                    have hcz73_1 : wc.cell? ⟨gb230, 1, none⟩ = some (.int .u64 a1_1) := (blk_cell BK230.out 1).trans rfl
                    have hcz73_2 : wc.cell? ⟨gb230, 2, none⟩ = some (.int .u64 a1_2) := (blk_cell BK230.out 2).trans rfl
                    have hcz73_3 : wc.cell? ⟨gb230, 3, none⟩ = some (.int .u64 a1_3) := (blk_cell BK230.out 3).trans rfl
                    have hcz73_4 : wc.cell? ⟨gb230, 4, none⟩ = some (.int .i64 a1_4) := (blk_cell BK230.out 4).trans rfl
                    have hcz73_5 : wc.cell? ⟨gb230, 5, none⟩ = some (.int .i64 a1_5) := (blk_cell BK230.out 5).trans rfl
                    have hfz73_0 := blk_frozen BK230.out 0
                    have hfz73_1 := blk_frozen BK230.out 1
                    have hfz73_2 := blk_frozen BK230.out 2
                    have hfz73_3 := blk_frozen BK230.out 3
                    have hfz73_4 := blk_frozen BK230.out 4
                    have hfz73_5 := blk_frozen BK230.out 5
                    go_wp2_with (first | ((with_reducible refine gate_callee (f := 22) rfl ?_); refine goesL_ (some 54) rfl rfl Try.func22 (by kernel_rfl) rfl #[.agg #[.int .u64 a1_0, .int .u64 a1_1, .int .u64 a1_2, .int .u64 a1_3, .int .i64 a1_4, .int .i64 a1_5], .int .u64 a2] rfl (by (try simp only [List.map_toArray, List.map_cons, List.map_nil]); first | done | rfl | (simp only [List.length_drop, List.length_take]; rfl)) ?_; (with_reducible refine (num_Has.calls a1_0 a1_1 a1_2 a1_3 a1_4 a1_5 a2 false _ A57.out).mono ?_); rintro e w74 ⟨rfl, hb⟩; refine ⟨_, rfl, ?_⟩; have n0_ := Aside0.mk (blk_below (g := gb229) (o := .cells #[.int .u64 a0_0, .int .u64 a0_1, .int .u64 a0_2, .int .u64 a0_3, .int .i64 a0_4, .int .i64 a0_5] 36 (0, 0)) (by (with_reducible repeat (first | refine blk_drewN ?_ _ | refine blk_drew ?_ | refine blk_alloc ?_ _)); exact BK229.out) hb); have n1_ := Aside0.mk (blk_below (g := gb230) (o := .cells #[.int .u64 a1_0, .int .u64 a1_1, .int .u64 a1_2, .int .u64 a1_3, .int .i64 a1_4, .int .i64 a1_5] 36 (0, 0)) (by (with_reducible repeat (first | refine blk_drewN ?_ _ | refine blk_drew ?_ | refine blk_alloc ?_ _)); exact BK230.out) hb); have n2_ := Aside0.mk (blk_below (g := gb239) (o := .cells #[.int .u64 t232, .int .u64 t233, .int .u64 t234, .int .u64 t235, .int .i64 t236, .int .i64 t237] 36 (0, 0)) (by (with_reducible repeat (first | refine blk_drewN ?_ _ | refine blk_drew ?_ | refine blk_alloc ?_ _)); exact BK239.out) hb); have n3_ := Aside0.mk (blk_below (g := gb247) (o := .cells #[.int .u64 t240, .int .u64 t241, .int .u64 t242, .int .u64 t243, .int .i64 t244, .int .i64 t245] 36 (0, 0)) (by (with_reducible repeat (first | refine blk_drewN ?_ _ | refine blk_drew ?_ | refine blk_alloc ?_ _)); exact BK247.out) hb); have n4_ := Aside0.mk (below_step (by repeat (first | (with_reducible first | exact HB.out | apply below_alloc | apply pw_below_drewN | apply below_drew1 | refine below_set ?_ GE229.out | refine below_set ?_ GE230.out | refine below_set ?_ GE239.out | refine below_set ?_ GE247.out) | exact HB.out)) hb); clear BK229; clear BK230; clear BK239; clear BK247; clear HB; have BK229 := n0_; have BK230 := n1_; have BK239 := n2_; have BK247 := n3_; have HB := n4_; clear n0_ n1_ n2_ n3_ n4_; (try clear hb); (try clear hb2); (try clear hk); (try clear hi)) | (go_at_call 22; (with_reducible refine (num_Has.calls a1_0 a1_1 a1_2 a1_3 a1_4 a1_5 a2 false _ A57.out).mono ?_); rintro e w74 ⟨rfl, hb⟩; have n0_ := Aside0.mk (blk_below (g := gb229) (o := .cells #[.int .u64 a0_0, .int .u64 a0_1, .int .u64 a0_2, .int .u64 a0_3, .int .i64 a0_4, .int .i64 a0_5] 36 (0, 0)) (by (with_reducible repeat (first | refine blk_drewN ?_ _ | refine blk_drew ?_ | refine blk_alloc ?_ _)); exact BK229.out) hb); have n1_ := Aside0.mk (blk_below (g := gb230) (o := .cells #[.int .u64 a1_0, .int .u64 a1_1, .int .u64 a1_2, .int .u64 a1_3, .int .i64 a1_4, .int .i64 a1_5] 36 (0, 0)) (by (with_reducible repeat (first | refine blk_drewN ?_ _ | refine blk_drew ?_ | refine blk_alloc ?_ _)); exact BK230.out) hb); have n2_ := Aside0.mk (blk_below (g := gb239) (o := .cells #[.int .u64 t232, .int .u64 t233, .int .u64 t234, .int .u64 t235, .int .i64 t236, .int .i64 t237] 36 (0, 0)) (by (with_reducible repeat (first | refine blk_drewN ?_ _ | refine blk_drew ?_ | refine blk_alloc ?_ _)); exact BK239.out) hb); have n3_ := Aside0.mk (blk_below (g := gb247) (o := .cells #[.int .u64 t240, .int .u64 t241, .int .u64 t242, .int .u64 t243, .int .i64 t244, .int .i64 t245] 36 (0, 0)) (by (with_reducible repeat (first | refine blk_drewN ?_ _ | refine blk_drew ?_ | refine blk_alloc ?_ _)); exact BK247.out) hb); have n4_ := Aside0.mk (below_step (by repeat (first | (with_reducible first | exact HB.out | apply below_alloc | apply pw_below_drewN | apply below_drew1 | refine below_set ?_ GE229.out | refine below_set ?_ GE230.out | refine below_set ?_ GE239.out | refine below_set ?_ GE247.out) | exact HB.out)) hb); clear BK229; clear BK230; clear BK239; clear BK247; clear HB; have BK229 := n0_; have BK230 := n1_; have BK239 := n2_; have BK247 := n3_; have HB := n4_; clear n0_ n1_ n2_ n3_ n4_; (try clear hb); (try clear hb2); (try clear hk); (try clear hi)))
                    go_ret
                    exact ⟨by first | rfl | (simp [errW_none, errW_some] <;> rfl) | (simp [*, errW_none, errW_some] <;> rfl), by repeat (first | (with_reducible first | exact HB.out | apply below_alloc | apply pw_below_drewN | apply below_drew1 | refine below_set ?_ GE229.out | refine below_set ?_ GE230.out | refine below_set ?_ GE239.out | refine below_set ?_ GE247.out) | exact HB.out)⟩
          · replace c39 := Bool.eq_false_iff.mpr c39
            subst c39
            have H1 : (some true) = some r := by rw [if_neg (show ¬ (false = true) by decide)] at H; exact H
            clear H
            have H := H1
            clear H1
            obtain rfl := Option.some.inj H
            have hnb75 := NB229_230.out
            have hnc75 := NB230_229.out
            have hnb76 := NB229_239.out
            have hnc76 := NB239_229.out
            have hnb77 := NB229_247.out
            have hnc77 := NB247_229.out
            have hcz78_0 : wc.cell? ⟨gb229, 0, none⟩ = some (.int .u64 a0_0) := (blk_cell BK229.out 0).trans rfl
            have hcz78_1 : wc.cell? ⟨gb229, 1, none⟩ = some (.int .u64 a0_1) := (blk_cell BK229.out 1).trans rfl
            have hcz78_2 : wc.cell? ⟨gb229, 2, none⟩ = some (.int .u64 a0_2) := (blk_cell BK229.out 2).trans rfl
            have hcz78_3 : wc.cell? ⟨gb229, 3, none⟩ = some (.int .u64 a0_3) := (blk_cell BK229.out 3).trans rfl
            have hcz78_4 : wc.cell? ⟨gb229, 4, none⟩ = some (.int .i64 a0_4) := (blk_cell BK229.out 4).trans rfl
            have hcz78_5 : wc.cell? ⟨gb229, 5, none⟩ = some (.int .i64 a0_5) := (blk_cell BK229.out 5).trans rfl
            have hfz78_0 := blk_frozen BK229.out 0
            have hfz78_1 := blk_frozen BK229.out 1
            have hfz78_2 := blk_frozen BK229.out 2
            have hfz78_3 := blk_frozen BK229.out 3
            have hfz78_4 := blk_frozen BK229.out 4
            have hfz78_5 := blk_frozen BK229.out 5
            go_wp2_with (first | ((with_reducible refine gate_callee (f := 22) rfl ?_); refine goesL_ (some 38) rfl rfl Try.func22 (by kernel_rfl) rfl #[.agg #[.int .u64 a0_0, .int .u64 a0_1, .int .u64 a0_2, .int .u64 a0_3, .int .i64 a0_4, .int .i64 a0_5], .int .u64 a2] rfl (by (try simp only [List.map_toArray, List.map_cons, List.map_nil]); first | done | rfl | (simp only [List.length_drop, List.length_take]; rfl)) ?_; (with_reducible refine (num_Has.calls a0_0 a0_1 a0_2 a0_3 a0_4 a0_5 a2 false _ A38.out).mono ?_); rintro e w79 ⟨rfl, hb⟩; refine ⟨_, rfl, ?_⟩; have n0_ := Aside0.mk (blk_below (g := gb229) (o := .cells #[.int .u64 a0_0, .int .u64 a0_1, .int .u64 a0_2, .int .u64 a0_3, .int .i64 a0_4, .int .i64 a0_5] 36 (0, 0)) (by (with_reducible repeat (first | refine blk_drewN ?_ _ | refine blk_drew ?_ | refine blk_alloc ?_ _)); exact BK229.out) hb); have n1_ := Aside0.mk (blk_below (g := gb230) (o := .cells #[.int .u64 a1_0, .int .u64 a1_1, .int .u64 a1_2, .int .u64 a1_3, .int .i64 a1_4, .int .i64 a1_5] 36 (0, 0)) (by (with_reducible repeat (first | refine blk_drewN ?_ _ | refine blk_drew ?_ | refine blk_alloc ?_ _)); exact BK230.out) hb); have n2_ := Aside0.mk (blk_below (g := gb239) (o := .cells #[.int .u64 t232, .int .u64 t233, .int .u64 t234, .int .u64 t235, .int .i64 t236, .int .i64 t237] 36 (0, 0)) (by (with_reducible repeat (first | refine blk_drewN ?_ _ | refine blk_drew ?_ | refine blk_alloc ?_ _)); exact BK239.out) hb); have n3_ := Aside0.mk (blk_below (g := gb247) (o := .cells #[.int .u64 t240, .int .u64 t241, .int .u64 t242, .int .u64 t243, .int .i64 t244, .int .i64 t245] 36 (0, 0)) (by (with_reducible repeat (first | refine blk_drewN ?_ _ | refine blk_drew ?_ | refine blk_alloc ?_ _)); exact BK247.out) hb); have n4_ := Aside0.mk (below_step (by repeat (first | (with_reducible first | exact HB.out | apply below_alloc | apply pw_below_drewN | apply below_drew1 | refine below_set ?_ GE229.out | refine below_set ?_ GE230.out | refine below_set ?_ GE239.out | refine below_set ?_ GE247.out) | exact HB.out)) hb); clear BK229; clear BK230; clear BK239; clear BK247; clear HB; have BK229 := n0_; have BK230 := n1_; have BK239 := n2_; have BK247 := n3_; have HB := n4_; clear n0_ n1_ n2_ n3_ n4_; (try clear hb); (try clear hb2); (try clear hk); (try clear hi)) | (go_at_call 22; (with_reducible refine (num_Has.calls a0_0 a0_1 a0_2 a0_3 a0_4 a0_5 a2 false _ A38.out).mono ?_); rintro e w79 ⟨rfl, hb⟩; have n0_ := Aside0.mk (blk_below (g := gb229) (o := .cells #[.int .u64 a0_0, .int .u64 a0_1, .int .u64 a0_2, .int .u64 a0_3, .int .i64 a0_4, .int .i64 a0_5] 36 (0, 0)) (by (with_reducible repeat (first | refine blk_drewN ?_ _ | refine blk_drew ?_ | refine blk_alloc ?_ _)); exact BK229.out) hb); have n1_ := Aside0.mk (blk_below (g := gb230) (o := .cells #[.int .u64 a1_0, .int .u64 a1_1, .int .u64 a1_2, .int .u64 a1_3, .int .i64 a1_4, .int .i64 a1_5] 36 (0, 0)) (by (with_reducible repeat (first | refine blk_drewN ?_ _ | refine blk_drew ?_ | refine blk_alloc ?_ _)); exact BK230.out) hb); have n2_ := Aside0.mk (blk_below (g := gb239) (o := .cells #[.int .u64 t232, .int .u64 t233, .int .u64 t234, .int .u64 t235, .int .i64 t236, .int .i64 t237] 36 (0, 0)) (by (with_reducible repeat (first | refine blk_drewN ?_ _ | refine blk_drew ?_ | refine blk_alloc ?_ _)); exact BK239.out) hb); have n3_ := Aside0.mk (blk_below (g := gb247) (o := .cells #[.int .u64 t240, .int .u64 t241, .int .u64 t242, .int .u64 t243, .int .i64 t244, .int .i64 t245] 36 (0, 0)) (by (with_reducible repeat (first | refine blk_drewN ?_ _ | refine blk_drew ?_ | refine blk_alloc ?_ _)); exact BK247.out) hb); have n4_ := Aside0.mk (below_step (by repeat (first | (with_reducible first | exact HB.out | apply below_alloc | apply pw_below_drewN | apply below_drew1 | refine below_set ?_ GE229.out | refine below_set ?_ GE230.out | refine below_set ?_ GE239.out | refine below_set ?_ GE247.out) | exact HB.out)) hb); clear BK229; clear BK230; clear BK239; clear BK247; clear HB; have BK229 := n0_; have BK230 := n1_; have BK239 := n2_; have BK247 := n3_; have HB := n4_; clear n0_ n1_ n2_ n3_ n4_; (try clear hb); (try clear hb2); (try clear hk); (try clear hi)))
            go_ret
            exact ⟨by first | rfl | (simp [errW_none, errW_some] <;> rfl) | (simp [*, errW_none, errW_some] <;> rfl), by repeat (first | (with_reducible first | exact HB.out | apply below_alloc | apply pw_below_drewN | apply below_drew1 | refine below_set ?_ GE229.out | refine below_set ?_ GE230.out | refine below_set ?_ GE239.out | refine below_set ?_ GE247.out) | exact HB.out)⟩
  · replace c6 := Bool.eq_false_iff.mpr c6
    subst c6
    have H1 : (some false) = some r := by rw [if_neg (show ¬ (false = true) by decide)] at H; exact H
    clear H
    have H := H1
    clear H1
    exact absurd (Option.some.inj H) (by rw [hr_.out]; decide)

/-- THE ONE PURE STATEMENT of halberdlaw07_NumSound. -/
def halberdlaw07_NumSound.Pure : Prop := ∀ (a0_0 : Int) (a0_1 : Int) (a0_2 : Int) (a0_3 : Int) (a0_4 : Int) (a0_5 : Int) (a1_0 : Int) (a1_1 : Int) (a1_2 : Int) (a1_3 : Int) (a1_4 : Int) (a1_5 : Int) (a2 : Int) (a3 : Int), ((((Lit.int .u64 a0_0).wf = true) ∧ ((Lit.int .u64 a0_1).wf = true)) ∧ ((Lit.int .u64 a0_2).wf = true) ∧ ((Lit.int .u64 a0_3).wf = true) ∧ ((Lit.int .i64 a0_4).wf = true) ∧ ((Lit.int .i64 a0_5).wf = true)) → ((((Lit.int .u64 a1_0).wf = true) ∧ ((Lit.int .u64 a1_1).wf = true)) ∧ ((Lit.int .u64 a1_2).wf = true) ∧ ((Lit.int .u64 a1_3).wf = true) ∧ ((Lit.int .i64 a1_4).wf = true) ∧ ((Lit.int .i64 a1_5).wf = true)) → ((Lit.int .u64 a2).wf = true) → ((Lit.int .i64 a3).wf = true) → ∃ k, halberdlaw07_NumSound.f k a0_0 a0_1 a0_2 a0_3 a0_4 a0_5 a1_0 a1_1 a1_2 a1_3 a1_4 a1_5 a2 a3 = some true

end Go.Proofs.Ytdojdjafleaedaa.PNumSound
