/- Functions of the program that some laws reach, as Lean functions, and proofs that the program's calls come to what they say: written by a program, for the texts that import it; each theorem bears its own conditions. -/
import Derived.Test.YtkgmdcibjjkhlaaVPU
import Derived.Test.YtkgmdcibjjkhlaaPXferNearx0
import Derived.Test.YtkgmdcibjjkhlaaPXferNearx1
import Derived.Test.YtkgmdcibjjkhlaaPXferNearx7
import Derived.Test.YtkgmdcibjjkhlaaPXferNearx10
import Derived.Test.YtkgmdcibjjkhlaaPXferNearx11
namespace Go.Proofs.Ytkgmdcibjjkhlaa.PXferNear
open Go.RowKit Go.Proofs.YtkgmdcibjjkhlaaW.PrintWords Go.Proofs.YtkgmdcibjjkhlaaW.PrintLast Go.Proofs.YtkgmdcibjjkhlaaW.PrintMore
attribute [local go_sem] max2_int min2_int max_two min_two max_three min_three max_four min_four   -- for this text's walks alone
set_option linter.unusedVariables false
set_option linter.unusedSimpArgs false

attribute [local go_sem high] eqA26
/-! ### halberdlaw08_XferNear: function 5 -/
def halberdlaw08_XferNear.f (k : Nat) (a0 : Int) (a1 : Bool) (a2 : Int) (a3 : Int) : Option (Bool) := (halberdlaw08_alive.f k).bind fun t280 => (if t280 = true then ((halberdref07_Const.f a2).bind fun bt281 => ((halberdref07_Const.f a3).bind fun bt287 => ((xfer_Do.f k a0 a1 bt281.1 bt281.2.1 bt281.2.2.1 bt281.2.2.2.1 bt281.2.2.2.2.1 bt281.2.2.2.2.2 bt287.1 bt287.2.1 bt287.2.2.1 bt287.2.2.2.1 bt287.2.2.2.2.1 bt287.2.2.2.2.2).bind fun bt293 => ((halberdref04_Do.f k a0 a1 a2 a3).bind fun bt301 => (if (bt293.2.2.2.2.2.2 == bt301.2) = true then (if bt293.2.2.2.2.2.2 = true then ((halberdref07_Const.f bt301.1).bind fun bt303 => (some ((bt293.1 == bt303.1 && (bt293.2.1 == bt303.2.1)) && (bt293.2.2.1 == bt303.2.2.1 && (bt293.2.2.2.1 == bt303.2.2.2.1 && (bt293.2.2.2.2.1 == bt303.2.2.2.2.1 && (bt293.2.2.2.2.2.1 == bt303.2.2.2.2.2))))))) else (some true)) else (some false)))))) else (some false))
theorem halberdlaw08_XferNear.mono : ∀ a0 a1 a2 a3 k, LeO (halberdlaw08_XferNear.f k a0 a1 a2 a3) (halberdlaw08_XferNear.f (k + 1) a0 a1 a2 a3) := by
  intro a0 a1 a2 a3 k
  unfold halberdlaw08_XferNear.f
  repeat' first
      | (with_reducible exact halberdlaw08_alive.mono _)
      | (with_reducible exact halberdref04_Do.mono _ _ _ _ _)
      | (with_reducible exact xfer_Do.mono _ _ _ _ _ _ _ _ _ _ _ _ _ _ _)
      | (with_reducible exact LeO.refl _)
      | (with_reducible exact LeO.none _)
      | (with_reducible refine LeO.ite ?_ ?_)
      | (with_reducible refine LeO.bind ?_ (fun _ => ?_))
      | exact halberdlaw08_alive.mono _
      | exact halberdref04_Do.mono _ _ _ _ _
      | exact xfer_Do.mono _ _ _ _ _ _ _ _ _ _ _ _ _ _ _
      | exact LeO.none _
      | refine LeO.ite ?_ ?_
      | refine LeO.bind ?_ (fun _ => ?_)
def halberdlaw08_XferNear.T5 : Bool × List (List Nat × List Nat) := (true, [([], []), ([], []), ([0, 1], [0, 1]), ([2], [2]), ([3], [3]), ([4, 3], [3, 4]), ([5, 3, 3], [3, 5]), ([6], [6]), ([6], [6]), ([8, 6, 6], [6, 8]), ([7, 9, 6], [6, 7, 9]), ([6, 10, 3], [3, 6, 10]), ([3, 11], [3, 11]), ([12, 9, 0, 1, 2, 3, 4, 5, 6, 7, 8, 9, 10, 11, 12], [12])])
def halberdlaw08_XferNear.B5 : List Nat := [0, 0, 3, 7, 15, 31, 63, 127, 127, 383, 1023, 2047, 4095, 8191]
theorem halberdlaw08_XferNear.tab5 : rtab .any (opsOf Try.f5 5) = halberdlaw08_XferNear.T5 := by kernel_rfl
theorem halberdlaw08_XferNear.bits5 : waitsOk halberdlaw08_XferNear.T5.2 halberdlaw08_XferNear.B5 = true := by kernel_rfl
set_option maxHeartbeats 8000000 in
set_option maxRecDepth 100000 in
theorem halberdlaw08_XferNear.calls (k : Nat) (a0 : Int) (a1 : Bool) (a2 : Int) (a3 : Int) (r : Bool) (w : World) (hr_ : Aside0 (r = true)) (h : halberdlaw08_XferNear.f k a0 a1 a2 a3 = some r) :
    Calls Try.prog 5 #[.int .u8 a0, .bool a1, .int .u64 a2, .int .u64 a3] w fun e w' => e = .returned (.bool r) ∧ Below w.heap.size w w' := by
  have hu26 := Try.underlying26
  have HB := Aside0.mk (Below.refl w.heap.size w)
  have H : ((halberdlaw08_alive.f k).bind fun t280 => (if t280 = true then ((halberdref07_Const.f a2).bind fun bt281 => ((halberdref07_Const.f a3).bind fun bt287 => ((xfer_Do.f k a0 a1 bt281.1 bt281.2.1 bt281.2.2.1 bt281.2.2.2.1 bt281.2.2.2.2.1 bt281.2.2.2.2.2 bt287.1 bt287.2.1 bt287.2.2.1 bt287.2.2.2.1 bt287.2.2.2.2.1 bt287.2.2.2.2.2).bind fun bt293 => ((halberdref04_Do.f k a0 a1 a2 a3).bind fun bt301 => (if (bt293.2.2.2.2.2.2 == bt301.2) = true then (if bt293.2.2.2.2.2.2 = true then ((halberdref07_Const.f bt301.1).bind fun bt303 => (some ((bt293.1 == bt303.1 && (bt293.2.1 == bt303.2.1)) && (bt293.2.2.1 == bt303.2.2.1 && (bt293.2.2.2.1 == bt303.2.2.2.1 && (bt293.2.2.2.2.1 == bt303.2.2.2.2.1 && (bt293.2.2.2.2.2.1 == bt303.2.2.2.2.2))))))) else (some true)) else (some false)))))) else (some false))) = some r := h
  clear h
  replace H := Option.bind_eq_some_iff.mp H
  obtain ⟨t280, A50, H⟩ := H
  replace H : (if t280 = true then ((halberdref07_Const.f a2).bind fun bt281 => ((halberdref07_Const.f a3).bind fun bt287 => ((xfer_Do.f k a0 a1 bt281.1 bt281.2.1 bt281.2.2.1 bt281.2.2.2.1 bt281.2.2.2.2.1 bt281.2.2.2.2.2 bt287.1 bt287.2.1 bt287.2.2.1 bt287.2.2.2.1 bt287.2.2.2.2.1 bt287.2.2.2.2.2).bind fun bt293 => ((halberdref04_Do.f k a0 a1 a2 a3).bind fun bt301 => (if (bt293.2.2.2.2.2.2 == bt301.2) = true then (if bt293.2.2.2.2.2.2 = true then ((halberdref07_Const.f bt301.1).bind fun bt303 => (some ((bt293.1 == bt303.1 && (bt293.2.1 == bt303.2.1)) && (bt293.2.2.1 == bt303.2.2.1 && (bt293.2.2.2.1 == bt303.2.2.2.1 && (bt293.2.2.2.2.1 == bt303.2.2.2.2.1 && (bt293.2.2.2.2.2.1 == bt303.2.2.2.2.2))))))) else (some true)) else (some false)))))) else (some false)) = some r := H
  have A5 := Aside0.mk A50
  clear A50
  by_cases c6 : t280 = true
  · subst c6
    have H1 : ((halberdref07_Const.f a2).bind fun bt281 => ((halberdref07_Const.f a3).bind fun bt287 => ((xfer_Do.f k a0 a1 bt281.1 bt281.2.1 bt281.2.2.1 bt281.2.2.2.1 bt281.2.2.2.2.1 bt281.2.2.2.2.2 bt287.1 bt287.2.1 bt287.2.2.1 bt287.2.2.2.1 bt287.2.2.2.2.1 bt287.2.2.2.2.2).bind fun bt293 => ((halberdref04_Do.f k a0 a1 a2 a3).bind fun bt301 => (if (bt293.2.2.2.2.2.2 == bt301.2) = true then (if bt293.2.2.2.2.2.2 = true then ((halberdref07_Const.f bt301.1).bind fun bt303 => (some ((bt293.1 == bt303.1 && (bt293.2.1 == bt303.2.1)) && (bt293.2.2.1 == bt303.2.2.1 && (bt293.2.2.2.1 == bt303.2.2.2.1 && (bt293.2.2.2.2.1 == bt303.2.2.2.2.1 && (bt293.2.2.2.2.2.1 == bt303.2.2.2.2.2))))))) else (some true)) else (some false)))))) = some r := by rw [if_pos rfl] at H; exact H
    clear H
    have H := H1
    clear H1
    replace H := Option.bind_eq_some_iff.mp H
    obtain ⟨⟨t281, t282, t283, t284, t285, t286⟩, A70, H⟩ := H
    replace H : ((halberdref07_Const.f a3).bind fun bt287 => ((xfer_Do.f k a0 a1 t281 t282 t283 t284 t285 t286 bt287.1 bt287.2.1 bt287.2.2.1 bt287.2.2.2.1 bt287.2.2.2.2.1 bt287.2.2.2.2.2).bind fun bt293 => ((halberdref04_Do.f k a0 a1 a2 a3).bind fun bt301 => (if (bt293.2.2.2.2.2.2 == bt301.2) = true then (if bt293.2.2.2.2.2.2 = true then ((halberdref07_Const.f bt301.1).bind fun bt303 => (some ((bt293.1 == bt303.1 && (bt293.2.1 == bt303.2.1)) && (bt293.2.2.1 == bt303.2.2.1 && (bt293.2.2.2.1 == bt303.2.2.2.1 && (bt293.2.2.2.2.1 == bt303.2.2.2.2.1 && (bt293.2.2.2.2.2.1 == bt303.2.2.2.2.2))))))) else (some true)) else (some false))))) = some r := H
    have A7 := Aside0.mk A70
    clear A70
    replace H := Option.bind_eq_some_iff.mp H
    obtain ⟨⟨t287, t288, t289, t290, t291, t292⟩, A80, H⟩ := H
    replace H : ((xfer_Do.f k a0 a1 t281 t282 t283 t284 t285 t286 t287 t288 t289 t290 t291 t292).bind fun bt293 => ((halberdref04_Do.f k a0 a1 a2 a3).bind fun bt301 => (if (bt293.2.2.2.2.2.2 == bt301.2) = true then (if bt293.2.2.2.2.2.2 = true then ((halberdref07_Const.f bt301.1).bind fun bt303 => (some ((bt293.1 == bt303.1 && (bt293.2.1 == bt303.2.1)) && (bt293.2.2.1 == bt303.2.2.1 && (bt293.2.2.2.1 == bt303.2.2.2.1 && (bt293.2.2.2.2.1 == bt303.2.2.2.2.1 && (bt293.2.2.2.2.2.1 == bt303.2.2.2.2.2))))))) else (some true)) else (some false)))) = some r := H
    have A8 := Aside0.mk A80
    clear A80
    replace H := Option.bind_eq_some_iff.mp H
    obtain ⟨⟨t293, t294, t295, t296, t297, t298, t299⟩, A90, H⟩ := H
    replace H : ((halberdref04_Do.f k a0 a1 a2 a3).bind fun bt301 => (if (t299 == bt301.2) = true then (if t299 = true then ((halberdref07_Const.f bt301.1).bind fun bt303 => (some ((t293 == bt303.1 && (t294 == bt303.2.1)) && (t295 == bt303.2.2.1 && (t296 == bt303.2.2.2.1 && (t297 == bt303.2.2.2.2.1 && (t298 == bt303.2.2.2.2.2))))))) else (some true)) else (some false))) = some r := H
    have A9 := Aside0.mk A90
    clear A90
    replace H := Option.bind_eq_some_iff.mp H
    obtain ⟨⟨t301, t302⟩, A100, H⟩ := H
    replace H : (if (t299 == t302) = true then (if t299 = true then ((halberdref07_Const.f t301).bind fun bt303 => (some ((t293 == bt303.1 && (t294 == bt303.2.1)) && (t295 == bt303.2.2.1 && (t296 == bt303.2.2.2.1 && (t297 == bt303.2.2.2.2.1 && (t298 == bt303.2.2.2.2.2))))))) else (some true)) else (some false)) = some r := H
    have A10 := Aside0.mk A100
    clear A100
    by_cases c11 : (t299 == t302) = true
    · rw [if_pos c11] at H
      have c11b0 : (t299 == t302) = true := c11
      (try (have c11b1 : decide (t299 = t302) = true := by simpa using c11))
      (try (have c11b2 : (t299 == t302) = true := by simpa using c11))
      clear c11
      by_cases c12 : t299 = true
      · subst c12
        have H1 : ((halberdref07_Const.f t301).bind fun bt303 => (some ((t293 == bt303.1 && (t294 == bt303.2.1)) && (t295 == bt303.2.2.1 && (t296 == bt303.2.2.2.1 && (t297 == bt303.2.2.2.2.1 && (t298 == bt303.2.2.2.2.2))))))) = some r := by rw [if_pos rfl] at H; exact H
        clear H
        have H := H1
        clear H1
        replace H := Option.bind_eq_some_iff.mp H
        obtain ⟨⟨t303, t304, t305, t306, t307, t308⟩, A130, H⟩ := H
        replace H : (some ((t293 == t303 && (t294 == t304)) && (t295 == t305 && (t296 == t306 && (t297 == t307 && (t298 == t308)))))) = some r := H
        have A13 := Aside0.mk A130
        clear A130
        obtain rfl := Option.some.inj H
        go_enter Try.func5, Try.ntmps5
        try go_wp2_with (first | ((with_reducible refine gate_callee (f := 6) rfl ?_); refine goesL_ (some 13) rfl rfl Try.func6 (by kernel_rfl) rfl #[] rfl (by (try simp only [List.map_toArray, List.map_cons, List.map_nil]); first | done | rfl | (simp only [List.length_drop, List.length_take]; rfl)) ?_; (with_reducible refine (halberdlaw08_alive.calls k  true _ A5.out).mono ?_); rintro e w14 ⟨rfl, hb⟩; refine ⟨_, rfl, ?_⟩; have n0_ := Aside0.mk (below_step (by repeat (first | (with_reducible first | exact HB.out | apply below_alloc | apply pw_below_drewN | apply below_drew1) | exact HB.out)) hb); clear HB; have HB := n0_; clear n0_; (try clear hb); (try clear hb2); (try clear hk); (try clear hi)) | ((with_reducible refine gate_callee (f := 11) rfl ?_); refine goesL_ (some 19) rfl rfl Try.func11 (by kernel_rfl) rfl #[.int .u64 a2] rfl (by (try simp only [List.map_toArray, List.map_cons, List.map_nil]); first | done | rfl | (simp only [List.length_drop, List.length_take]; rfl)) ?_; (with_reducible refine (halberdref07_Const.calls a2 t281 t282 t283 t284 t285 t286 _ A7.out).mono ?_); rintro e w15 ⟨rfl, hb⟩; refine ⟨_, rfl, ?_⟩; have n0_ := Aside0.mk (below_step (by repeat (first | (with_reducible first | exact HB.out | apply below_alloc | apply pw_below_drewN | apply below_drew1) | exact HB.out)) hb); clear HB; have HB := n0_; clear n0_; (try clear hb); (try clear hb2); (try clear hk); (try clear hi)) | ((with_reducible refine gate_callee (f := 11) rfl ?_); refine goesL_ (some 21) rfl rfl Try.func11 (by kernel_rfl) rfl #[.int .u64 a3] rfl (by (try simp only [List.map_toArray, List.map_cons, List.map_nil]); first | done | rfl | (simp only [List.length_drop, List.length_take]; rfl)) ?_; (with_reducible refine (halberdref07_Const.calls a3 t287 t288 t289 t290 t291 t292 _ A8.out).mono ?_); rintro e w16 ⟨rfl, hb⟩; refine ⟨_, rfl, ?_⟩; have n0_ := Aside0.mk (below_step (by repeat (first | (with_reducible first | exact HB.out | apply below_alloc | apply pw_below_drewN | apply below_drew1) | exact HB.out)) hb); clear HB; have HB := n0_; clear n0_; (try clear hb); (try clear hb2); (try clear hk); (try clear hi)) | ((with_reducible refine gate_callee (f := 7) rfl ?_); refine goesL_ (some 22) rfl rfl Try.func7 (by kernel_rfl) rfl #[.int .u8 a0, .bool a1, .agg #[.int .u64 t281, .int .u64 t282, .int .u64 t283, .int .u64 t284, .int .i64 t285, .int .i64 t286], .agg #[.int .u64 t287, .int .u64 t288, .int .u64 t289, .int .u64 t290, .int .i64 t291, .int .i64 t292]] rfl (by (try simp only [List.map_toArray, List.map_cons, List.map_nil]); first | done | rfl | (simp only [List.length_drop, List.length_take]; rfl)) ?_; (with_reducible refine (xfer_Do.calls k a0 a1 t281 t282 t283 t284 t285 t286 t287 t288 t289 t290 t291 t292 t293 t294 t295 t296 t297 t298 true _ A9.out).mono ?_); rintro e w17 ⟨rfl, hb⟩; refine ⟨_, rfl, ?_⟩; have n0_ := Aside0.mk (below_step (by repeat (first | (with_reducible first | exact HB.out | apply below_alloc | apply pw_below_drewN | apply below_drew1) | exact HB.out)) hb); clear HB; have HB := n0_; clear n0_; (try clear hb); (try clear hb2); (try clear hk); (try clear hi)) | ((with_reducible refine gate_dst (N := 9) rfl ?_); refine box_event ?hg (N := 9) ?hd (cs := #[.int .u64 0, .int .u64 0, .int .u64 0, .int .u64 0, .int .i64 0, .int .i64 0]) (t := 26) ?hr ?_; (case hd => rfl); (case hg => rfl); (case hr => first | (go_simp; done) | (go_simp; rfl)); intro gb300 hg w18 hbox hb; have n0_ := Aside0.mk (below_step (by repeat (first | (with_reducible first | exact HB.out | apply below_alloc | apply pw_below_drewN | apply below_drew1) | exact HB.out)) hb); have n1_ := Aside0.mk (hbox); have n2_ := Aside0.mk ((by rw [hg]; exact (below_size (by repeat (first | (with_reducible first | exact HB.out | apply below_alloc | apply pw_below_drewN | apply below_drew1) | exact HB.out))) : w.heap.size ≤ gb300)); have n3_ := Aside0.mk ((by rw [hg]; exact (below_size (by repeat (first | (with_reducible first | exact HB.out | apply below_alloc | apply pw_below_drewN | apply below_drew1) | exact HB.out))) : w.heap.size ≤ gb300)); clear HB; have HB := n0_; have BK300 := n1_; have GW300 := n2_; have GE300 := n3_; clear n0_ n1_ n2_ n3_; clear hb hbox hg; have hcz19_0 : w18.cell? ⟨gb300, 0, none⟩ = some (.int .u64 0) := (blk_cell BK300.out 0).trans rfl; have hcz19_1 : w18.cell? ⟨gb300, 1, none⟩ = some (.int .u64 0) := (blk_cell BK300.out 1).trans rfl; have hcz19_2 : w18.cell? ⟨gb300, 2, none⟩ = some (.int .u64 0) := (blk_cell BK300.out 2).trans rfl; have hcz19_3 : w18.cell? ⟨gb300, 3, none⟩ = some (.int .u64 0) := (blk_cell BK300.out 3).trans rfl; have hcz19_4 : w18.cell? ⟨gb300, 4, none⟩ = some (.int .i64 0) := (blk_cell BK300.out 4).trans rfl; have hcz19_5 : w18.cell? ⟨gb300, 5, none⟩ = some (.int .i64 0) := (blk_cell BK300.out 5).trans rfl; have hfz19_0 := blk_frozen BK300.out 0; have hfz19_1 := blk_frozen BK300.out 1; have hfz19_2 := blk_frozen BK300.out 2; have hfz19_3 := blk_frozen BK300.out 3; have hfz19_4 := blk_frozen BK300.out 4; have hfz19_5 := blk_frozen BK300.out 5) | ((with_reducible refine gate_callee (f := 10) rfl ?_); refine goesL_ (some 30) rfl rfl Try.func10 (by kernel_rfl) rfl #[.int .u8 a0, .bool a1, .int .u64 a2, .int .u64 a3] rfl (by (try simp only [List.map_toArray, List.map_cons, List.map_nil]); first | done | rfl | (simp only [List.length_drop, List.length_take]; rfl)) ?_; (with_reducible refine (halberdref04_Do.calls k a0 a1 a2 a3 t301 t302 _ A10.out).mono ?_); rintro e w' ⟨rfl, ⟨nd, rfl⟩⟩; refine ⟨_, rfl, ?_⟩) | (go_at_call 6; (with_reducible refine (halberdlaw08_alive.calls k  true _ A5.out).mono ?_); rintro e w14 ⟨rfl, hb⟩; have n0_ := Aside0.mk (below_step (by repeat (first | (with_reducible first | exact HB.out | apply below_alloc | apply pw_below_drewN | apply below_drew1) | exact HB.out)) hb); clear HB; have HB := n0_; clear n0_; (try clear hb); (try clear hb2); (try clear hk); (try clear hi)) | (go_at_call 11; (with_reducible refine (halberdref07_Const.calls a2 t281 t282 t283 t284 t285 t286 _ A7.out).mono ?_); rintro e w15 ⟨rfl, hb⟩; have n0_ := Aside0.mk (below_step (by repeat (first | (with_reducible first | exact HB.out | apply below_alloc | apply pw_below_drewN | apply below_drew1) | exact HB.out)) hb); clear HB; have HB := n0_; clear n0_; (try clear hb); (try clear hb2); (try clear hk); (try clear hi)) | (go_at_call 11; (with_reducible refine (halberdref07_Const.calls a3 t287 t288 t289 t290 t291 t292 _ A8.out).mono ?_); rintro e w16 ⟨rfl, hb⟩; have n0_ := Aside0.mk (below_step (by repeat (first | (with_reducible first | exact HB.out | apply below_alloc | apply pw_below_drewN | apply below_drew1) | exact HB.out)) hb); clear HB; have HB := n0_; clear n0_; (try clear hb); (try clear hb2); (try clear hk); (try clear hi)) | (go_at_call 7; (with_reducible refine (xfer_Do.calls k a0 a1 t281 t282 t283 t284 t285 t286 t287 t288 t289 t290 t291 t292 t293 t294 t295 t296 t297 t298 true _ A9.out).mono ?_); rintro e w17 ⟨rfl, hb⟩; have n0_ := Aside0.mk (below_step (by repeat (first | (with_reducible first | exact HB.out | apply below_alloc | apply pw_below_drewN | apply below_drew1) | exact HB.out)) hb); clear HB; have HB := n0_; clear n0_; (try clear hb); (try clear hb2); (try clear hk); (try clear hi)) | (go_at_call 10; (with_reducible refine (halberdref04_Do.calls k a0 a1 a2 a3 t301 t302 _ A10.out).mono ?_); rintro e w' ⟨rfl, ⟨nd, rfl⟩⟩; refine ⟨_, rfl, ?_⟩))
        have n0_ : Aside0 (((((((w18.setCell ⟨gb300, 0, none⟩ (.int .u64 t293)).setCell ⟨gb300, 1, none⟩ (.int .u64 t294)).setCell ⟨gb300, 2, none⟩ (.int .u64 t295)).setCell ⟨gb300, 3, none⟩ (.int .u64 t296)).setCell ⟨gb300, 4, none⟩ (.int .i64 t297)).setCell ⟨gb300, 5, none⟩ (.int .i64 t298)).heap[gb300]? = some (.cells #[.int .u64 t293, .int .u64 t294, .int .u64 t295, .int .u64 t296, .int .i64 t297, .int .i64 t298] 26 (0, 0))) := ⟨by (with_reducible repeat (first | refine blk_drewN ?_ _ | refine blk_drew ?_ | refine blk_alloc ?_ _)); refine blk_put (cs := #[.int .u64 t293, .int .u64 t294, .int .u64 t295, .int .u64 t296, .int .i64 t297, .int .i64 0]) ?_ 5 _ rfl; (with_reducible repeat (first | refine blk_drewN ?_ _ | refine blk_drew ?_ | refine blk_alloc ?_ _)); refine blk_put (cs := #[.int .u64 t293, .int .u64 t294, .int .u64 t295, .int .u64 t296, .int .i64 0, .int .i64 0]) ?_ 4 _ rfl; (with_reducible repeat (first | refine blk_drewN ?_ _ | refine blk_drew ?_ | refine blk_alloc ?_ _)); refine blk_put (cs := #[.int .u64 t293, .int .u64 t294, .int .u64 t295, .int .u64 0, .int .i64 0, .int .i64 0]) ?_ 3 _ rfl; (with_reducible repeat (first | refine blk_drewN ?_ _ | refine blk_drew ?_ | refine blk_alloc ?_ _)); refine blk_put (cs := #[.int .u64 t293, .int .u64 t294, .int .u64 0, .int .u64 0, .int .i64 0, .int .i64 0]) ?_ 2 _ rfl; (with_reducible repeat (first | refine blk_drewN ?_ _ | refine blk_drew ?_ | refine blk_alloc ?_ _)); refine blk_put (cs := #[.int .u64 t293, .int .u64 0, .int .u64 0, .int .u64 0, .int .i64 0, .int .i64 0]) ?_ 1 _ rfl; (with_reducible repeat (first | refine blk_drewN ?_ _ | refine blk_drew ?_ | refine blk_alloc ?_ _)); refine blk_put (cs := #[.int .u64 0, .int .u64 0, .int .u64 0, .int .u64 0, .int .i64 0, .int .i64 0]) ?_ 0 _ rfl; (with_reducible repeat (first | refine blk_drewN ?_ _ | refine blk_drew ?_ | refine blk_alloc ?_ _)); exact BK300.out⟩
        have n1_ : Aside0 (Below w.heap.size w ((((((w18.setCell ⟨gb300, 0, none⟩ (.int .u64 t293)).setCell ⟨gb300, 1, none⟩ (.int .u64 t294)).setCell ⟨gb300, 2, none⟩ (.int .u64 t295)).setCell ⟨gb300, 3, none⟩ (.int .u64 t296)).setCell ⟨gb300, 4, none⟩ (.int .i64 t297)).setCell ⟨gb300, 5, none⟩ (.int .i64 t298))) := ⟨by repeat (first | (with_reducible first | exact HB.out | apply below_alloc | apply pw_below_drewN | apply below_drew1 | refine below_set ?_ GE300.out) | exact HB.out)⟩
        (try clear BK300)
        (try clear HB)
        generalize ((((((w18.setCell ⟨gb300, 0, none⟩ (.int .u64 t293)).setCell ⟨gb300, 1, none⟩ (.int .u64 t294)).setCell ⟨gb300, 2, none⟩ (.int .u64 t295)).setCell ⟨gb300, 3, none⟩ (.int .u64 t296)).setCell ⟨gb300, 4, none⟩ (.int .i64 t297)).setCell ⟨gb300, 5, none⟩ (.int .i64 t298)) = w20 at n0_ n1_ ⊢
        have BK300 := n0_
        have HB := n1_
        clear n0_ n1_
        (try (rw [drewN_self w20]; generalize hq_ : World.drewN w20 _ = w20; have n0_ : Aside0 (w20.heap[gb300]? = some (.cells #[.int .u64 t293, .int .u64 t294, .int .u64 t295, .int .u64 t296, .int .i64 t297, .int .i64 t298] 26 (0, 0))) := ⟨by rw [← hq_]; exact (by (with_reducible repeat (first | refine blk_drewN ?_ _ | refine blk_drew ?_ | refine blk_alloc ?_ _)); exact BK300.out)⟩; have n1_ : Aside0 (Below w.heap.size w w20) := ⟨by rw [← hq_]; exact (by repeat (first | (with_reducible first | exact HB.out | apply below_alloc | apply pw_below_drewN | apply below_drew1 | refine below_set ?_ GE300.out) | exact HB.out))⟩; clear BK300 HB hq_; have BK300 := n0_; have HB := n1_; clear n0_ n1_))
        have n0_ := Aside0.mk (blk_drew BK300.out)
        have n1_ := Aside0.mk (below_drew1 HB.out)
        clear BK300
        clear HB
        have BK300 := n0_
        have HB := n1_
        clear n0_ n1_
        refine start_ (n := 14) (S := fun w' => w'.cell? ⟨gb300, 0, none⟩ = some (.int .u64 t293) ∧ w'.cell? ⟨gb300, 1, none⟩ = some (.int .u64 t294) ∧ w'.cell? ⟨gb300, 2, none⟩ = some (.int .u64 t295) ∧ w'.cell? ⟨gb300, 3, none⟩ = some (.int .u64 t296) ∧ w'.cell? ⟨gb300, 4, none⟩ = some (.int .i64 t297) ∧ w'.cell? ⟨gb300, 5, none⟩ = some (.int .i64 t298)) (ds := []) #[false, false, false, false, false, false, false, false, false, false, false, false, false, false] (by kernel_rfl) rfl rfl ⟨(blk_cell BK300.out 0).trans rfl, (blk_cell BK300.out 1).trans rfl, (blk_cell BK300.out 2).trans rfl, (blk_cell BK300.out 3).trans rfl, (blk_cell BK300.out 4).trans rfl, (blk_cell BK300.out 5).trans rfl⟩ (fun hHeld => ?_); refine with_tabW halberdlaw08_XferNear.tab5 halberdlaw08_XferNear.bits5 (fun HT_ HW_ => ?_)
        generalize w20.drew = w21 at BK300 HB hHeld ⊢
        refine pure_ (i := 0) (N := some 33) (v := ?_) (a' := ?_) (Hp.up 14 1) rfl rfl (any_of HT_.out (by kernel_rfl)) (fun _ _ _ h => h) (Or.inl ⟨by rfl, ?_⟩) ?_ ?_
        rotate_left
        · intro w'
          go_simp
          with_reducible rfl
        rotate_left
        · simp only [Act.put, List.setIfInBounds_toArray, List.set_cons_zero, List.set_cons_succ, i64_w, i32_w]
          rfl
        refine pure_ (i := 1) (N := some 34) (v := ?_) (a' := ?_) (Hp.up 14 2) rfl rfl (any_of HT_.out (by kernel_rfl)) (fun _ _ _ h => h) (Or.inl ⟨by rfl, ?_⟩) ?_ ?_
        rotate_left
        · intro w'
          go_simp
          with_reducible rfl
        rotate_left
        · simp only [Act.put, List.setIfInBounds_toArray, List.set_cons_zero, List.set_cons_succ, i64_w, i32_w]
          rfl
        refine pure_ (i := 2) (N := some 35) (v := ?_) (a' := ?_) (Hp.up 14 3) rfl rfl (any_of HT_.out (by kernel_rfl)) (fun _ _ _ h => h) (Or.inl ⟨by rfl, ?_⟩) ?_ ?_
        rotate_left
        · intro w'
          go_simp
          with_reducible rfl
        rotate_left
        · simp only [Act.put, List.setIfInBounds_toArray, List.set_cons_zero, List.set_cons_succ, i64_w, i32_w]
          rfl
        refine pure_ (i := 3) (N := some 36) (v := ?_) (a' := ?_) (Hp.up 14 4) rfl rfl (any_of HT_.out (by kernel_rfl)) (fun _ _ _ h => h) (Or.inl ⟨by rfl, ?_⟩) ?_ ?_
        rotate_left
        · intro w'
          go_simp
          with_reducible rfl
        rotate_left
        · simp only [Act.put, List.setIfInBounds_toArray, List.set_cons_zero, List.set_cons_succ, i64_w, i32_w]
          rfl
        refine pure_ (i := 4) (N := some 37) (v := ?_) (a' := ?_) (Hp.up 14 5) rfl rfl (any_of HT_.out (by kernel_rfl)) (fun _ _ _ h => h) (Or.inl ⟨by rfl, ?_⟩) ?_ ?_
        rotate_left
        · intro w'
          go_simp
          with_reducible rfl
        rotate_left
        · simp only [Act.put, List.setIfInBounds_toArray, List.set_cons_zero, List.set_cons_succ, i64_w, i32_w]
          rfl
        refine pure_ (i := 5) (N := some 38) (v := ?_) (a' := ?_) (Hp.up 14 6) rfl rfl (any_of HT_.out (by kernel_rfl)) (fun _ _ _ h => h) (Or.inl ⟨by rfl, ?_⟩) ?_ ?_
        rotate_left
        · intro w'
          go_simp
          with_reducible rfl
        rotate_left
        · simp only [Act.put, List.setIfInBounds_toArray, List.set_cons_zero, List.set_cons_succ, i64_w, i32_w]
          rfl
        refine pure_ (i := 6) (N := some 39) (v := ?_) (a' := ?_) (Hp.up 14 7) rfl rfl (any_of HT_.out (by kernel_rfl)) (fun _ _ _ h => h) (Or.inl ⟨by rfl, ?_⟩) ?_ ?_
        rotate_left
        · intro w'
          go_simp
          with_reducible rfl
        rotate_left
        · simp only [Act.put, List.setIfInBounds_toArray, List.set_cons_zero, List.set_cons_succ, i64_w, i32_w]
          rfl
        refine pure_ (i := 8) (N := some 41) (v := ?_) (a' := ?_) #[true, true, true, true, true, true, true, false, true, false, false, false, false, false] rfl rfl (any_of HT_.out (by kernel_rfl)) (fun _ _ _ h => h) (Or.inl ⟨by rfl, ?_⟩) ?_ ?_
        rotate_left
        · intro w'
          go_simp
          with_reducible rfl
        rotate_left
        · simp only [Act.put, List.setIfInBounds_toArray, List.set_cons_zero, List.set_cons_succ, i64_w, i32_w]
          rfl
        refine take_ (i := 7) (N := some 40) (v := ?_) (a' := ?_) (Hp.up 14 9) rfl rfl (take_ofW HT_.out HW_.out (by kernel_rfl)) (fun _ _ _ h => h) (Or.inl ⟨by rfl, ?_⟩) hHeld ?_ ?_
        rotate_left
        · rintro w' ⟨s0, s1, s2, s3, s4, s5⟩
          go_simp
          with_reducible rfl
        rotate_left
        · simp only [Act.put, List.setIfInBounds_toArray, List.set_cons_zero, List.set_cons_succ, i64_w, i32_w]
          rfl
        refine one_ (i := 9) (N := some 42) (Hp.up 14 10) rfl rfl (one_of HT_.out (by kernel_rfl)) (by decide) (fun K hK => ?_)
        refine goes_ Try.func11 (by kernel_rfl) rfl #[.int .u64 t301] (by rfl) rfl rfl (by (try simp only [List.map_toArray, List.map_cons, List.map_nil]); first | done | rfl | (simp only [List.length_drop, List.length_take]; rfl)) ?_
        with_reducible refine (halberdref07_Const.calls t301 t303 t304 t305 t306 t307 t308 _ A13.out).mono ?_
        rintro e w22 ⟨rfl, hb⟩
        refine ⟨_, rfl, ?_⟩
        have n0_ := Aside0.mk (blk_below (g := gb300) (o := .cells #[.int .u64 t293, .int .u64 t294, .int .u64 t295, .int .u64 t296, .int .i64 t297, .int .i64 t298] 26 (0, 0)) (by (with_reducible repeat (first | refine blk_drewN ?_ _ | refine blk_drew ?_ | refine blk_alloc ?_ _)); exact BK300.out) hb)
        have n1_ := Aside0.mk (below_step (by repeat (first | (with_reducible first | exact HB.out | apply below_alloc | apply pw_below_drewN | apply below_drew1 | refine below_set ?_ GE300.out) | exact HB.out)) hb)
        clear BK300
        clear HB
        have BK300 := n0_
        have HB := n1_
        clear n0_ n1_
        (try clear hb)
        (try clear hb2)
        (try clear hk)
        (try clear hi)
        refine hK.out _ _ ⟨(blk_cell BK300.out 0).trans rfl, (blk_cell BK300.out 1).trans rfl, (blk_cell BK300.out 2).trans rfl, (blk_cell BK300.out 3).trans rfl, (blk_cell BK300.out 4).trans rfl, (blk_cell BK300.out 5).trans rfl⟩ (fun hHeld => ?_)
        clear hK K
        refine norm_ (a' := ?_) ?_ ?_
        rotate_left
        · show Act.put _ (some 42) _ = _
          simp only [Act.put, List.setIfInBounds_toArray, List.set_cons_zero, List.set_cons_succ, i64_w, i32_w]
          rfl
        refine pure_ (i := 10) (N := some 43) (v := ?_) (a' := ?_) (Hp.up 14 11) rfl rfl (any_of HT_.out (by kernel_rfl)) (fun _ _ _ h => h) (Or.inl ⟨by rfl, ?_⟩) ?_ ?_
        rotate_left
        · intro w'
          go_simp
          with_reducible rfl
        rotate_left
        · simp only [Act.put, List.setIfInBounds_toArray, List.set_cons_zero, List.set_cons_succ, i64_w, i32_w]
          rfl
        refine pure_ (i := 11) (N := some 44) (v := ?_) (a' := ?_) (Hp.up 14 12) rfl rfl (any_of HT_.out (by kernel_rfl)) (fun _ _ _ h => h) (Or.inl ⟨by rfl, ?_⟩) ?_ ?_
        rotate_left
        · intro w'
          go_simp
          with_reducible rfl
        rotate_left
        · simp only [Act.put, List.setIfInBounds_toArray, List.set_cons_zero, List.set_cons_succ, i64_w, i32_w]
          rfl
        refine pure_ (i := 12) (N := some 45) (v := ?_) (a' := ?_) (Hp.up 14 13) rfl rfl (any_of HT_.out (by kernel_rfl)) (fun _ _ _ h => h) (Or.inl ⟨by rfl, ?_⟩) ?_ ?_
        rotate_left
        · intro w'
          go_simp
          with_reducible rfl
        rotate_left
        · simp only [Act.put, List.setIfInBounds_toArray, List.set_cons_zero, List.set_cons_succ, i64_w, i32_w]
          rfl
        refine pure_ (i := 13) (N := some 8) (v := ?_) (a' := ?_) (Hp.up 14 14) rfl rfl (any_of HT_.out (by kernel_rfl)) (fun _ _ _ h => h) (Or.inl ⟨by rfl, ?_⟩) ?_ ?_
        rotate_left
        · intro w'
          go_simp
          with_reducible rfl
        rotate_left
        · simp only [Act.put, List.setIfInBounds_toArray, List.set_cons_zero, List.set_cons_succ, i64_w, i32_w]
          rfl
        refine done_ (done_of HT_.out (by kernel_rfl)) ?_
        try go_wp2
        go_ret
        exact ⟨by first | rfl | (simp [errW_none, errW_some] <;> rfl) | (simp [*, errW_none, errW_some] <;> rfl), by repeat (first | (with_reducible first | exact HB.out | apply below_alloc | apply pw_below_drewN | apply below_drew1 | refine below_set ?_ GE300.out) | exact HB.out)⟩
      · replace c12 := Bool.eq_false_iff.mpr c12
        subst c12
        have H1 : (some true) = some r := by rw [if_neg (show ¬ (false = true) by decide)] at H; exact H
        clear H
        have H := H1
        clear H1
        obtain rfl := Option.some.inj H
        go_enter Try.func5, Try.ntmps5
        try go_wp2_with (first | ((with_reducible refine gate_callee (f := 6) rfl ?_); refine goesL_ (some 13) rfl rfl Try.func6 (by kernel_rfl) rfl #[] rfl (by (try simp only [List.map_toArray, List.map_cons, List.map_nil]); first | done | rfl | (simp only [List.length_drop, List.length_take]; rfl)) ?_; (with_reducible refine (halberdlaw08_alive.calls k  true _ A5.out).mono ?_); rintro e w23 ⟨rfl, hb⟩; refine ⟨_, rfl, ?_⟩; have n0_ := Aside0.mk (below_step (by repeat (first | (with_reducible first | exact HB.out | apply below_alloc | apply pw_below_drewN | apply below_drew1) | exact HB.out)) hb); clear HB; have HB := n0_; clear n0_; (try clear hb); (try clear hb2); (try clear hk); (try clear hi)) | ((with_reducible refine gate_callee (f := 11) rfl ?_); refine goesL_ (some 19) rfl rfl Try.func11 (by kernel_rfl) rfl #[.int .u64 a2] rfl (by (try simp only [List.map_toArray, List.map_cons, List.map_nil]); first | done | rfl | (simp only [List.length_drop, List.length_take]; rfl)) ?_; (with_reducible refine (halberdref07_Const.calls a2 t281 t282 t283 t284 t285 t286 _ A7.out).mono ?_); rintro e w24 ⟨rfl, hb⟩; refine ⟨_, rfl, ?_⟩; have n0_ := Aside0.mk (below_step (by repeat (first | (with_reducible first | exact HB.out | apply below_alloc | apply pw_below_drewN | apply below_drew1) | exact HB.out)) hb); clear HB; have HB := n0_; clear n0_; (try clear hb); (try clear hb2); (try clear hk); (try clear hi)) | ((with_reducible refine gate_callee (f := 11) rfl ?_); refine goesL_ (some 21) rfl rfl Try.func11 (by kernel_rfl) rfl #[.int .u64 a3] rfl (by (try simp only [List.map_toArray, List.map_cons, List.map_nil]); first | done | rfl | (simp only [List.length_drop, List.length_take]; rfl)) ?_; (with_reducible refine (halberdref07_Const.calls a3 t287 t288 t289 t290 t291 t292 _ A8.out).mono ?_); rintro e w25 ⟨rfl, hb⟩; refine ⟨_, rfl, ?_⟩; have n0_ := Aside0.mk (below_step (by repeat (first | (with_reducible first | exact HB.out | apply below_alloc | apply pw_below_drewN | apply below_drew1) | exact HB.out)) hb); clear HB; have HB := n0_; clear n0_; (try clear hb); (try clear hb2); (try clear hk); (try clear hi)) | ((with_reducible refine gate_callee (f := 7) rfl ?_); refine goesL_ (some 22) rfl rfl Try.func7 (by kernel_rfl) rfl #[.int .u8 a0, .bool a1, .agg #[.int .u64 t281, .int .u64 t282, .int .u64 t283, .int .u64 t284, .int .i64 t285, .int .i64 t286], .agg #[.int .u64 t287, .int .u64 t288, .int .u64 t289, .int .u64 t290, .int .i64 t291, .int .i64 t292]] rfl (by (try simp only [List.map_toArray, List.map_cons, List.map_nil]); first | done | rfl | (simp only [List.length_drop, List.length_take]; rfl)) ?_; (with_reducible refine (xfer_Do.calls k a0 a1 t281 t282 t283 t284 t285 t286 t287 t288 t289 t290 t291 t292 t293 t294 t295 t296 t297 t298 false _ A9.out).mono ?_); rintro e w26 ⟨rfl, hb⟩; refine ⟨_, rfl, ?_⟩; have n0_ := Aside0.mk (below_step (by repeat (first | (with_reducible first | exact HB.out | apply below_alloc | apply pw_below_drewN | apply below_drew1) | exact HB.out)) hb); clear HB; have HB := n0_; clear n0_; (try clear hb); (try clear hb2); (try clear hk); (try clear hi)) | ((with_reducible refine gate_dst (N := 9) rfl ?_); refine box_event ?hg (N := 9) ?hd (cs := #[.int .u64 0, .int .u64 0, .int .u64 0, .int .u64 0, .int .i64 0, .int .i64 0]) (t := 26) ?hr ?_; (case hd => rfl); (case hg => rfl); (case hr => first | (go_simp; done) | (go_simp; rfl)); intro gb300 hg w27 hbox hb; have n0_ := Aside0.mk (below_step (by repeat (first | (with_reducible first | exact HB.out | apply below_alloc | apply pw_below_drewN | apply below_drew1) | exact HB.out)) hb); have n1_ := Aside0.mk (hbox); have n2_ := Aside0.mk ((by rw [hg]; exact (below_size (by repeat (first | (with_reducible first | exact HB.out | apply below_alloc | apply pw_below_drewN | apply below_drew1) | exact HB.out))) : w.heap.size ≤ gb300)); have n3_ := Aside0.mk ((by rw [hg]; exact (below_size (by repeat (first | (with_reducible first | exact HB.out | apply below_alloc | apply pw_below_drewN | apply below_drew1) | exact HB.out))) : w.heap.size ≤ gb300)); clear HB; have HB := n0_; have BK300 := n1_; have GW300 := n2_; have GE300 := n3_; clear n0_ n1_ n2_ n3_; clear hb hbox hg; have hcz28_0 : w27.cell? ⟨gb300, 0, none⟩ = some (.int .u64 0) := (blk_cell BK300.out 0).trans rfl; have hcz28_1 : w27.cell? ⟨gb300, 1, none⟩ = some (.int .u64 0) := (blk_cell BK300.out 1).trans rfl; have hcz28_2 : w27.cell? ⟨gb300, 2, none⟩ = some (.int .u64 0) := (blk_cell BK300.out 2).trans rfl; have hcz28_3 : w27.cell? ⟨gb300, 3, none⟩ = some (.int .u64 0) := (blk_cell BK300.out 3).trans rfl; have hcz28_4 : w27.cell? ⟨gb300, 4, none⟩ = some (.int .i64 0) := (blk_cell BK300.out 4).trans rfl; have hcz28_5 : w27.cell? ⟨gb300, 5, none⟩ = some (.int .i64 0) := (blk_cell BK300.out 5).trans rfl; have hfz28_0 := blk_frozen BK300.out 0; have hfz28_1 := blk_frozen BK300.out 1; have hfz28_2 := blk_frozen BK300.out 2; have hfz28_3 := blk_frozen BK300.out 3; have hfz28_4 := blk_frozen BK300.out 4; have hfz28_5 := blk_frozen BK300.out 5) | ((with_reducible refine gate_callee (f := 10) rfl ?_); refine goesL_ (some 30) rfl rfl Try.func10 (by kernel_rfl) rfl #[.int .u8 a0, .bool a1, .int .u64 a2, .int .u64 a3] rfl (by (try simp only [List.map_toArray, List.map_cons, List.map_nil]); first | done | rfl | (simp only [List.length_drop, List.length_take]; rfl)) ?_; (with_reducible refine (halberdref04_Do.calls k a0 a1 a2 a3 t301 t302 _ A10.out).mono ?_); rintro e w' ⟨rfl, ⟨nd, rfl⟩⟩; refine ⟨_, rfl, ?_⟩) | (go_at_call 6; (with_reducible refine (halberdlaw08_alive.calls k  true _ A5.out).mono ?_); rintro e w23 ⟨rfl, hb⟩; have n0_ := Aside0.mk (below_step (by repeat (first | (with_reducible first | exact HB.out | apply below_alloc | apply pw_below_drewN | apply below_drew1) | exact HB.out)) hb); clear HB; have HB := n0_; clear n0_; (try clear hb); (try clear hb2); (try clear hk); (try clear hi)) | (go_at_call 11; (with_reducible refine (halberdref07_Const.calls a2 t281 t282 t283 t284 t285 t286 _ A7.out).mono ?_); rintro e w24 ⟨rfl, hb⟩; have n0_ := Aside0.mk (below_step (by repeat (first | (with_reducible first | exact HB.out | apply below_alloc | apply pw_below_drewN | apply below_drew1) | exact HB.out)) hb); clear HB; have HB := n0_; clear n0_; (try clear hb); (try clear hb2); (try clear hk); (try clear hi)) | (go_at_call 11; (with_reducible refine (halberdref07_Const.calls a3 t287 t288 t289 t290 t291 t292 _ A8.out).mono ?_); rintro e w25 ⟨rfl, hb⟩; have n0_ := Aside0.mk (below_step (by repeat (first | (with_reducible first | exact HB.out | apply below_alloc | apply pw_below_drewN | apply below_drew1) | exact HB.out)) hb); clear HB; have HB := n0_; clear n0_; (try clear hb); (try clear hb2); (try clear hk); (try clear hi)) | (go_at_call 7; (with_reducible refine (xfer_Do.calls k a0 a1 t281 t282 t283 t284 t285 t286 t287 t288 t289 t290 t291 t292 t293 t294 t295 t296 t297 t298 false _ A9.out).mono ?_); rintro e w26 ⟨rfl, hb⟩; have n0_ := Aside0.mk (below_step (by repeat (first | (with_reducible first | exact HB.out | apply below_alloc | apply pw_below_drewN | apply below_drew1) | exact HB.out)) hb); clear HB; have HB := n0_; clear n0_; (try clear hb); (try clear hb2); (try clear hk); (try clear hi)) | (go_at_call 10; (with_reducible refine (halberdref04_Do.calls k a0 a1 a2 a3 t301 t302 _ A10.out).mono ?_); rintro e w' ⟨rfl, ⟨nd, rfl⟩⟩; refine ⟨_, rfl, ?_⟩))
        have n0_ : Aside0 (((((((w27.setCell ⟨gb300, 0, none⟩ (.int .u64 t293)).setCell ⟨gb300, 1, none⟩ (.int .u64 t294)).setCell ⟨gb300, 2, none⟩ (.int .u64 t295)).setCell ⟨gb300, 3, none⟩ (.int .u64 t296)).setCell ⟨gb300, 4, none⟩ (.int .i64 t297)).setCell ⟨gb300, 5, none⟩ (.int .i64 t298)).heap[gb300]? = some (.cells #[.int .u64 t293, .int .u64 t294, .int .u64 t295, .int .u64 t296, .int .i64 t297, .int .i64 t298] 26 (0, 0))) := ⟨by (with_reducible repeat (first | refine blk_drewN ?_ _ | refine blk_drew ?_ | refine blk_alloc ?_ _)); refine blk_put (cs := #[.int .u64 t293, .int .u64 t294, .int .u64 t295, .int .u64 t296, .int .i64 t297, .int .i64 0]) ?_ 5 _ rfl; (with_reducible repeat (first | refine blk_drewN ?_ _ | refine blk_drew ?_ | refine blk_alloc ?_ _)); refine blk_put (cs := #[.int .u64 t293, .int .u64 t294, .int .u64 t295, .int .u64 t296, .int .i64 0, .int .i64 0]) ?_ 4 _ rfl; (with_reducible repeat (first | refine blk_drewN ?_ _ | refine blk_drew ?_ | refine blk_alloc ?_ _)); refine blk_put (cs := #[.int .u64 t293, .int .u64 t294, .int .u64 t295, .int .u64 0, .int .i64 0, .int .i64 0]) ?_ 3 _ rfl; (with_reducible repeat (first | refine blk_drewN ?_ _ | refine blk_drew ?_ | refine blk_alloc ?_ _)); refine blk_put (cs := #[.int .u64 t293, .int .u64 t294, .int .u64 0, .int .u64 0, .int .i64 0, .int .i64 0]) ?_ 2 _ rfl; (with_reducible repeat (first | refine blk_drewN ?_ _ | refine blk_drew ?_ | refine blk_alloc ?_ _)); refine blk_put (cs := #[.int .u64 t293, .int .u64 0, .int .u64 0, .int .u64 0, .int .i64 0, .int .i64 0]) ?_ 1 _ rfl; (with_reducible repeat (first | refine blk_drewN ?_ _ | refine blk_drew ?_ | refine blk_alloc ?_ _)); refine blk_put (cs := #[.int .u64 0, .int .u64 0, .int .u64 0, .int .u64 0, .int .i64 0, .int .i64 0]) ?_ 0 _ rfl; (with_reducible repeat (first | refine blk_drewN ?_ _ | refine blk_drew ?_ | refine blk_alloc ?_ _)); exact BK300.out⟩
        have n1_ : Aside0 (Below w.heap.size w ((((((w27.setCell ⟨gb300, 0, none⟩ (.int .u64 t293)).setCell ⟨gb300, 1, none⟩ (.int .u64 t294)).setCell ⟨gb300, 2, none⟩ (.int .u64 t295)).setCell ⟨gb300, 3, none⟩ (.int .u64 t296)).setCell ⟨gb300, 4, none⟩ (.int .i64 t297)).setCell ⟨gb300, 5, none⟩ (.int .i64 t298))) := ⟨by repeat (first | (with_reducible first | exact HB.out | apply below_alloc | apply pw_below_drewN | apply below_drew1 | refine below_set ?_ GE300.out) | exact HB.out)⟩
        (try clear BK300)
        (try clear HB)
        generalize ((((((w27.setCell ⟨gb300, 0, none⟩ (.int .u64 t293)).setCell ⟨gb300, 1, none⟩ (.int .u64 t294)).setCell ⟨gb300, 2, none⟩ (.int .u64 t295)).setCell ⟨gb300, 3, none⟩ (.int .u64 t296)).setCell ⟨gb300, 4, none⟩ (.int .i64 t297)).setCell ⟨gb300, 5, none⟩ (.int .i64 t298)) = w29 at n0_ n1_ ⊢
        have BK300 := n0_
        have HB := n1_
        clear n0_ n1_
        (try (rw [drewN_self w29]; generalize hq_ : World.drewN w29 _ = w29; have n0_ : Aside0 (w29.heap[gb300]? = some (.cells #[.int .u64 t293, .int .u64 t294, .int .u64 t295, .int .u64 t296, .int .i64 t297, .int .i64 t298] 26 (0, 0))) := ⟨by rw [← hq_]; exact (by (with_reducible repeat (first | refine blk_drewN ?_ _ | refine blk_drew ?_ | refine blk_alloc ?_ _)); exact BK300.out)⟩; have n1_ : Aside0 (Below w.heap.size w w29) := ⟨by rw [← hq_]; exact (by repeat (first | (with_reducible first | exact HB.out | apply below_alloc | apply pw_below_drewN | apply below_drew1 | refine below_set ?_ GE300.out) | exact HB.out))⟩; clear BK300 HB hq_; have BK300 := n0_; have HB := n1_; clear n0_ n1_))
        have n0_ := Aside0.mk (blk_drew BK300.out)
        have n1_ := Aside0.mk (below_drew1 HB.out)
        clear BK300
        clear HB
        have BK300 := n0_
        have HB := n1_
        clear n0_ n1_
        refine start_ (n := 14) (S := fun w' => True) (ds := []) #[false, false, false, false, false, false, false, false, false, false, false, false, false, false] (by kernel_rfl) rfl rfl trivial (fun hHeld => ?_); refine with_tabW halberdlaw08_XferNear.tab5 halberdlaw08_XferNear.bits5 (fun HT_ HW_ => ?_)
        generalize w29.drew = w30 at BK300 HB hHeld ⊢
        refine pure_ (i := 0) (N := some 33) (v := ?_) (a' := ?_) (Hp.up 14 1) rfl rfl (any_of HT_.out (by kernel_rfl)) (fun _ _ _ h => h) (Or.inl ⟨by rfl, ?_⟩) ?_ ?_
        rotate_left
        · intro w'
          go_simp
          with_reducible rfl
        rotate_left
        · simp only [Act.put, List.setIfInBounds_toArray, List.set_cons_zero, List.set_cons_succ, i64_w, i32_w]
          rfl
        refine pure_ (i := 1) (N := some 34) (v := ?_) (a' := ?_) (Hp.up 14 2) rfl rfl (any_of HT_.out (by kernel_rfl)) (fun _ _ _ h => h) (Or.inl ⟨by rfl, ?_⟩) ?_ ?_
        rotate_left
        · intro w'
          go_simp
          with_reducible rfl
        rotate_left
        · simp only [Act.put, List.setIfInBounds_toArray, List.set_cons_zero, List.set_cons_succ, i64_w, i32_w]
          rfl
        refine pure_ (i := 2) (N := some 35) (v := ?_) (a' := ?_) (Hp.up 14 3) rfl rfl (any_of HT_.out (by kernel_rfl)) (fun _ _ _ h => h) (Or.inl ⟨by rfl, ?_⟩) ?_ ?_
        rotate_left
        · intro w'
          go_simp
          with_reducible rfl
        rotate_left
        · simp only [Act.put, List.setIfInBounds_toArray, List.set_cons_zero, List.set_cons_succ, i64_w, i32_w]
          rfl
        refine pure_ (i := 3) (N := some 36) (v := ?_) (a' := ?_) (Hp.up 14 4) rfl rfl (any_of HT_.out (by kernel_rfl)) (fun _ _ _ h => h) (Or.inl ⟨by rfl, ?_⟩) ?_ ?_
        rotate_left
        · intro w'
          go_simp
          with_reducible rfl
        rotate_left
        · simp only [Act.put, List.setIfInBounds_toArray, List.set_cons_zero, List.set_cons_succ, i64_w, i32_w]
          rfl
        refine pure_ (i := 4) (N := some 37) (v := ?_) (a' := ?_) (Hp.up 14 5) rfl rfl (any_of HT_.out (by kernel_rfl)) (fun _ _ _ h => h) (Or.inl ⟨by rfl, ?_⟩) ?_ ?_
        rotate_left
        · intro w'
          go_simp
          with_reducible rfl
        rotate_left
        · simp only [Act.put, List.setIfInBounds_toArray, List.set_cons_zero, List.set_cons_succ, i64_w, i32_w]
          rfl
        refine pure_ (i := 5) (N := some 38) (v := ?_) (a' := ?_) (Hp.up 14 6) rfl rfl (any_of HT_.out (by kernel_rfl)) (fun _ _ _ h => h) (Or.inl ⟨by rfl, ?_⟩) ?_ ?_
        rotate_left
        · intro w'
          go_simp
          with_reducible rfl
        rotate_left
        · simp only [Act.put, List.setIfInBounds_toArray, List.set_cons_zero, List.set_cons_succ, i64_w, i32_w]
          rfl
        refine pure_ (i := 6) (N := some 39) (v := ?_) (a' := ?_) (Hp.up 14 7) rfl rfl (any_of HT_.out (by kernel_rfl)) (fun _ _ _ h => h) (Or.inl ⟨by rfl, ?_⟩) ?_ ?_
        rotate_left
        · intro w'
          go_simp
          with_reducible rfl
        rotate_left
        · simp only [Act.put, List.setIfInBounds_toArray, List.set_cons_zero, List.set_cons_succ, i64_w, i32_w]
          rfl
        refine pure_ (i := 7) (N := some 40) (v := undef) (a' := ?_) (Hp.up 14 8) rfl rfl (any_of HT_.out (by kernel_rfl)) (fun _ _ _ h => h) (Or.inr ⟨by rfl, rfl⟩) ?_ ?_
        rotate_left
        · simp only [Act.put, List.setIfInBounds_toArray, List.set_cons_zero, List.set_cons_succ, i64_w, i32_w]
          rfl
        refine pure_ (i := 8) (N := some 41) (v := undef) (a' := ?_) (Hp.up 14 9) rfl rfl (any_of HT_.out (by kernel_rfl)) (fun _ _ _ h => h) (Or.inr ⟨by rfl, rfl⟩) ?_ ?_
        rotate_left
        · simp only [Act.put, List.setIfInBounds_toArray, List.set_cons_zero, List.set_cons_succ, i64_w, i32_w]
          rfl
        refine pure_ (i := 9) (N := some 42) (v := undef) (a' := ?_) (Hp.up 14 10) rfl rfl (any_of HT_.out (by kernel_rfl)) (fun _ _ _ h => h) (Or.inr ⟨by rfl, rfl⟩) ?_ ?_
        rotate_left
        · simp only [Act.put, List.setIfInBounds_toArray, List.set_cons_zero, List.set_cons_succ, i64_w, i32_w]
          rfl
        refine pure_ (i := 10) (N := some 43) (v := undef) (a' := ?_) (Hp.up 14 11) rfl rfl (any_of HT_.out (by kernel_rfl)) (fun _ _ _ h => h) (Or.inr ⟨by rfl, rfl⟩) ?_ ?_
        rotate_left
        · simp only [Act.put, List.setIfInBounds_toArray, List.set_cons_zero, List.set_cons_succ, i64_w, i32_w]
          rfl
        refine pure_ (i := 11) (N := some 44) (v := ?_) (a' := ?_) (Hp.up 14 12) rfl rfl (any_of HT_.out (by kernel_rfl)) (fun _ _ _ h => h) (Or.inl ⟨by rfl, ?_⟩) ?_ ?_
        rotate_left
        · intro w'
          go_simp
          with_reducible rfl
        rotate_left
        · simp only [Act.put, List.setIfInBounds_toArray, List.set_cons_zero, List.set_cons_succ, i64_w, i32_w]
          rfl
        refine pure_ (i := 12) (N := some 45) (v := ?_) (a' := ?_) (Hp.up 14 13) rfl rfl (any_of HT_.out (by kernel_rfl)) (fun _ _ _ h => h) (Or.inl ⟨by rfl, ?_⟩) ?_ ?_
        rotate_left
        · intro w'
          go_simp
          with_reducible rfl
        rotate_left
        · simp only [Act.put, List.setIfInBounds_toArray, List.set_cons_zero, List.set_cons_succ, i64_w, i32_w]
          rfl
        refine pure_ (i := 13) (N := some 8) (v := ?_) (a' := ?_) (Hp.up 14 14) rfl rfl (any_of HT_.out (by kernel_rfl)) (fun _ _ _ h => h) (Or.inl ⟨by rfl, ?_⟩) ?_ ?_
        rotate_left
        · intro w'
          go_simp
          with_reducible rfl
        rotate_left
        · simp only [Act.put, List.setIfInBounds_toArray, List.set_cons_zero, List.set_cons_succ, i64_w, i32_w]
          rfl
        refine done_ (done_of HT_.out (by kernel_rfl)) ?_
        try go_wp2
        go_ret
        exact ⟨by first | rfl | (simp [errW_none, errW_some] <;> rfl) | (simp [*, errW_none, errW_some] <;> rfl), by repeat (first | (with_reducible first | exact HB.out | apply below_alloc | apply pw_below_drewN | apply below_drew1 | refine below_set ?_ GE300.out) | exact HB.out)⟩
    · rw [if_neg c11] at H
      have c11b0 : (t299 == t302) = false := by simpa using c11
      (try (have c11b1 : decide (t299 = t302) = false := by simpa using c11))
      (try (have c11b2 : (t299 == t302) = false := by simpa using c11))
      (try (have c11b3 : ¬ (t299 = t302) := by simpa using c11))
      clear c11
      exact absurd (Option.some.inj H) (by rw [hr_.out]; decide)
  · replace c6 := Bool.eq_false_iff.mpr c6
    subst c6
    have H1 : (some false) = some r := by rw [if_neg (show ¬ (false = true) by decide)] at H; exact H
    clear H
    have H := H1
    clear H1
    exact absurd (Option.some.inj H) (by rw [hr_.out]; decide)

/-- THE ONE PURE STATEMENT of halberdlaw08_XferNear. -/
def halberdlaw08_XferNear.Pure : Prop := ∀ (a0 : Int) (a1 : Bool) (a2 : Int) (a3 : Int), ((Lit.int .u8 a0).wf = true) → ((Lit.int .u64 a2).wf = true) → ((Lit.int .u64 a3).wf = true) → ∃ k, halberdlaw08_XferNear.f k a0 a1 a2 a3 = some true

end Go.Proofs.Ytkgmdcibjjkhlaa.PXferNear
