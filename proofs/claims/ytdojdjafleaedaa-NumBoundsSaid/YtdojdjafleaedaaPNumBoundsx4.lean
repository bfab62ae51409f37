/- Functions of the program that some laws reach, as Lean functions, and proofs that the program's calls come to what they say: written by a program, for the texts that import it; each theorem bears its own conditions. -/
import Derived.Test.YtdojdjafleaedaaPNumBoundsx0
import Derived.Test.YtdojdjafleaedaaPNumBoundsx2
import Derived.Test.YtdojdjafleaedaaPNumBoundsx3
namespace Go.Proofs.Ytdojdjafleaedaa.PNumBounds
open Go.RowKit Go.Proofs.YtdojdjafleaedaaW.PrintWords Go.Proofs.YtdojdjafleaedaaW.PrintLast Go.Proofs.YtdojdjafleaedaaW.PrintMore
attribute [local go_sem] max2_int min2_int max_two min_two max_three min_three max_four min_four   -- for this text's walks alone
set_option linter.unusedVariables false
set_option linter.unusedSimpArgs false

theorem gate_gen4 {P : Program} {ops : Array Oper} {rest : List Oper} {Q : Exit → Act → World → Prop} {a : Act} {Wo : World} (P1 : World → Prop) (h1 : P1 Wo) (hk : ∀ W, P1 W → wpList P ops Q rest a W) : wpList P ops Q rest a Wo := hk _ h1
/-! ### halberdlaw07_alive: function 18 -/
def halberdlaw07_alive.f (k : Nat)  : Option (Bool) := (num_All.f).bind fun bt175 => ((num_Refine.f 1 18446744073709551614 bt175.2.2.1 7 bt175.2.2.2.2.1 bt175.2.2.2.2.2).bind fun bt182 => ((num_Const.f 1).bind fun bt190 => ((num_Const.f 2).bind fun bt196 => ((num_Meet.f bt190.1 bt190.2.1 bt190.2.2.1 bt190.2.2.2.1 bt190.2.2.2.2.1 bt190.2.2.2.2.2 bt196.1 bt196.2.1 bt196.2.2.1 bt196.2.2.2.1 bt196.2.2.2.2.1 bt196.2.2.2.2.2).bind fun bt202 => (if bt182.2.2.2.2.2.2 = true then (if bt182.2.2.1 = 1 then (if bt182.2.2.2.1 = 7 then ((num_All.f).bind fun bt210 => ((num_Cut.f k bt210.1 bt210.2.1 bt210.2.2.1 bt210.2.2.2.1 bt210.2.2.2.2.1 bt210.2.2.2.2.2 1).bind fun bt216 => (if bt216.2.2.2.1 = 255 then (some (!bt202.2.2.2.2.2.2)) else (some false)))) else (some false)) else (some false)) else (some false))))))
theorem halberdlaw07_alive.mono : ∀ k, LeO (halberdlaw07_alive.f k ) (halberdlaw07_alive.f (k + 1) ) := by
  intro  k
  unfold halberdlaw07_alive.f
  repeat' first
      | (with_reducible exact num_Cut.mono _ _ _ _ _ _ _ _)
      | (with_reducible exact LeO.refl _)
      | (with_reducible exact LeO.none _)
      | (with_reducible refine LeO.ite ?_ ?_)
      | (with_reducible refine LeO.bind ?_ (fun _ => ?_))
      | exact num_Cut.mono _ _ _ _ _ _ _ _
      | exact LeO.none _
      | refine LeO.ite ?_ ?_
      | refine LeO.bind ?_ (fun _ => ?_)
set_option maxHeartbeats 8000000 in
set_option maxRecDepth 100000 in
theorem halberdlaw07_alive.calls (k : Nat)  (r : Bool) (w : World) (h : halberdlaw07_alive.f k  = some r) :
    Calls Try.prog 18 #[] w fun e w' => e = .returned (.bool r) ∧ Below w.heap.size w w' := by
  have hfd36_2 : ∀ (x0 x1 x2 x3 x4 x5 : Value) (w_ : World), (Instr.field 36 (.agg #[x0, x1, x2, x3, x4, x5]) 2).run Try.prog w_ = .ok x3 w_ := fun x0 x1 x2 x3 x4 x5 w_ => by kernel_rfl
  have hu36 := Try.underlying36
  have hu34 := Try.underlying34
  have HB := Aside0.mk (Below.refl w.heap.size w)
  have H : ((num_All.f).bind fun bt175 => ((num_Refine.f 1 18446744073709551614 bt175.2.2.1 7 bt175.2.2.2.2.1 bt175.2.2.2.2.2).bind fun bt182 => ((num_Const.f 1).bind fun bt190 => ((num_Const.f 2).bind fun bt196 => ((num_Meet.f bt190.1 bt190.2.1 bt190.2.2.1 bt190.2.2.2.1 bt190.2.2.2.2.1 bt190.2.2.2.2.2 bt196.1 bt196.2.1 bt196.2.2.1 bt196.2.2.2.1 bt196.2.2.2.2.1 bt196.2.2.2.2.2).bind fun bt202 => (if bt182.2.2.2.2.2.2 = true then (if bt182.2.2.1 = 1 then (if bt182.2.2.2.1 = 7 then ((num_All.f).bind fun bt210 => ((num_Cut.f k bt210.1 bt210.2.1 bt210.2.2.1 bt210.2.2.2.1 bt210.2.2.2.2.1 bt210.2.2.2.2.2 1).bind fun bt216 => (if bt216.2.2.2.1 = 255 then (some (!bt202.2.2.2.2.2.2)) else (some false)))) else (some false)) else (some false)) else (some false))))))) = some r := h
  clear h
  replace H := Option.bind_eq_some_iff.mp H
  obtain ⟨⟨t175, t176, t177, t178, t179, t180⟩, A10, H⟩ := H
  replace H : ((num_Refine.f 1 18446744073709551614 t177 7 t179 t180).bind fun bt182 => ((num_Const.f 1).bind fun bt190 => ((num_Const.f 2).bind fun bt196 => ((num_Meet.f bt190.1 bt190.2.1 bt190.2.2.1 bt190.2.2.2.1 bt190.2.2.2.2.1 bt190.2.2.2.2.2 bt196.1 bt196.2.1 bt196.2.2.1 bt196.2.2.2.1 bt196.2.2.2.2.1 bt196.2.2.2.2.2).bind fun bt202 => (if bt182.2.2.2.2.2.2 = true then (if bt182.2.2.1 = 1 then (if bt182.2.2.2.1 = 7 then ((num_All.f).bind fun bt210 => ((num_Cut.f k bt210.1 bt210.2.1 bt210.2.2.1 bt210.2.2.2.1 bt210.2.2.2.2.1 bt210.2.2.2.2.2 1).bind fun bt216 => (if bt216.2.2.2.1 = 255 then (some (!bt202.2.2.2.2.2.2)) else (some false)))) else (some false)) else (some false)) else (some false)))))) = some r := H
  have A1 := Aside0.mk A10
  clear A10
  replace H := Option.bind_eq_some_iff.mp H
  obtain ⟨⟨t182, t183, t184, t185, t186, t187, t188⟩, A20, H⟩ := H
  replace H : ((num_Const.f 1).bind fun bt190 => ((num_Const.f 2).bind fun bt196 => ((num_Meet.f bt190.1 bt190.2.1 bt190.2.2.1 bt190.2.2.2.1 bt190.2.2.2.2.1 bt190.2.2.2.2.2 bt196.1 bt196.2.1 bt196.2.2.1 bt196.2.2.2.1 bt196.2.2.2.2.1 bt196.2.2.2.2.2).bind fun bt202 => (if t188 = true then (if t184 = 1 then (if t185 = 7 then ((num_All.f).bind fun bt210 => ((num_Cut.f k bt210.1 bt210.2.1 bt210.2.2.1 bt210.2.2.2.1 bt210.2.2.2.2.1 bt210.2.2.2.2.2 1).bind fun bt216 => (if bt216.2.2.2.1 = 255 then (some (!bt202.2.2.2.2.2.2)) else (some false)))) else (some false)) else (some false)) else (some false))))) = some r := H
  have A2 := Aside0.mk A20
  clear A20
  replace H := Option.bind_eq_some_iff.mp H
  obtain ⟨⟨t190, t191, t192, t193, t194, t195⟩, A30, H⟩ := H
  replace H : ((num_Const.f 2).bind fun bt196 => ((num_Meet.f t190 t191 t192 t193 t194 t195 bt196.1 bt196.2.1 bt196.2.2.1 bt196.2.2.2.1 bt196.2.2.2.2.1 bt196.2.2.2.2.2).bind fun bt202 => (if t188 = true then (if t184 = 1 then (if t185 = 7 then ((num_All.f).bind fun bt210 => ((num_Cut.f k bt210.1 bt210.2.1 bt210.2.2.1 bt210.2.2.2.1 bt210.2.2.2.2.1 bt210.2.2.2.2.2 1).bind fun bt216 => (if bt216.2.2.2.1 = 255 then (some (!bt202.2.2.2.2.2.2)) else (some false)))) else (some false)) else (some false)) else (some false)))) = some r := H
  have A3 := Aside0.mk A30
  clear A30
  replace H := Option.bind_eq_some_iff.mp H
  obtain ⟨⟨t196, t197, t198, t199, t200, t201⟩, A40, H⟩ := H
  replace H : ((num_Meet.f t190 t191 t192 t193 t194 t195 t196 t197 t198 t199 t200 t201).bind fun bt202 => (if t188 = true then (if t184 = 1 then (if t185 = 7 then ((num_All.f).bind fun bt210 => ((num_Cut.f k bt210.1 bt210.2.1 bt210.2.2.1 bt210.2.2.2.1 bt210.2.2.2.2.1 bt210.2.2.2.2.2 1).bind fun bt216 => (if bt216.2.2.2.1 = 255 then (some (!bt202.2.2.2.2.2.2)) else (some false)))) else (some false)) else (some false)) else (some false))) = some r := H
  have A4 := Aside0.mk A40
  clear A40
  replace H := Option.bind_eq_some_iff.mp H
  obtain ⟨⟨t202, t203, t204, t205, t206, t207, t208⟩, A50, H⟩ := H
  replace H : (if t188 = true then (if t184 = 1 then (if t185 = 7 then ((num_All.f).bind fun bt210 => ((num_Cut.f k bt210.1 bt210.2.1 bt210.2.2.1 bt210.2.2.2.1 bt210.2.2.2.2.1 bt210.2.2.2.2.2 1).bind fun bt216 => (if bt216.2.2.2.1 = 255 then (some (!t208)) else (some false)))) else (some false)) else (some false)) else (some false)) = some r := H
  have A5 := Aside0.mk A50
  clear A50
  by_cases c6 : t188 = true
  · subst c6
    have H1 : (if t184 = 1 then (if t185 = 7 then ((num_All.f).bind fun bt210 => ((num_Cut.f k bt210.1 bt210.2.1 bt210.2.2.1 bt210.2.2.2.1 bt210.2.2.2.2.1 bt210.2.2.2.2.2 1).bind fun bt216 => (if bt216.2.2.2.1 = 255 then (some (!t208)) else (some false)))) else (some false)) else (some false)) = some r := by rw [if_pos rfl] at H; exact H
    clear H
    have H := H1
    clear H1
    by_cases c7 : t184 = 1
    · rw [if_pos c7] at H
      have c7b0 : (t184 == 1) = true := beq_iff_eq.mpr c7
      have c7b1 : (t184 != 1) = false := bne_eq_false_iff_eq.mpr c7
      clear c7
      by_cases c8 : t185 = 7
      · rw [if_pos c8] at H
        have c8b0 : (t185 == 7) = true := beq_iff_eq.mpr c8
        have c8b1 : (t185 != 7) = false := bne_eq_false_iff_eq.mpr c8
        clear c8
        replace H := Option.bind_eq_some_iff.mp H
        obtain ⟨⟨t210, t211, t212, t213, t214, t215⟩, A90, H⟩ := H
        replace H : ((num_Cut.f k t210 t211 t212 t213 t214 t215 1).bind fun bt216 => (if bt216.2.2.2.1 = 255 then (some (!t208)) else (some false))) = some r := H
        have A9 := Aside0.mk A90
        clear A90
        replace H := Option.bind_eq_some_iff.mp H
        obtain ⟨⟨t216, t217, t218, t219, t220, t221⟩, A100, H⟩ := H
        replace H : (if t219 = 255 then (some (!t208)) else (some false)) = some r := H
        have A10 := Aside0.mk A100
        clear A100
        by_cases c11 : t219 = 255
        · rw [if_pos c11] at H
          have c11b0 : (t219 == 255) = true := beq_iff_eq.mpr c11
          have c11b1 : (t219 != 255) = false := bne_eq_false_iff_eq.mpr c11
          clear c11
          obtain rfl := Option.some.inj H
          go_enter Try.func18, Try.ntmps18
          go_wp2_with (first | ((with_reducible refine gate_callee (f := 29) rfl ?_); refine goesL_ (some 6) rfl rfl Try.func29 (by kernel_rfl) rfl #[] rfl (by (try simp only [List.map_toArray, List.map_cons, List.map_nil]); first | done | rfl | (simp only [List.length_drop, List.length_take]; rfl)) ?_; (with_reducible refine (num_All.calls  t175 t176 t177 t178 t179 t180 _ A1.out).mono ?_); rintro e w12 ⟨rfl, hb⟩; refine ⟨_, rfl, ?_⟩; have n0_ := Aside0.mk (below_step (by repeat (first | (with_reducible first | exact HB.out | apply below_alloc | apply pw_below_drewN | apply below_drew1) | exact HB.out)) hb); clear HB; have HB := n0_; clear n0_; (try clear hb); (try clear hb2); (try clear hk); (try clear hi)) | ((with_reducible refine gate_dst (N := 1) rfl ?_); refine box_event ?hg (N := 1) ?hd (cs := #[.int .u64 0, .int .u64 0, .int .u64 0, .int .u64 0, .int .i64 0, .int .i64 0]) (t := 36) ?hr ?_; (case hd => rfl); (case hg => rfl); (case hr => first | (go_simp; done) | (go_simp; rfl)); intro gb181 hg w13 hbox hb; have n0_ := Aside0.mk (below_step (by repeat (first | (with_reducible first | exact HB.out | apply below_alloc | apply pw_below_drewN | apply below_drew1) | exact HB.out)) hb); have n1_ := Aside0.mk (hbox); have n2_ := Aside0.mk ((by rw [hg]; exact (below_size (by repeat (first | (with_reducible first | exact HB.out | apply below_alloc | apply pw_below_drewN | apply below_drew1) | exact HB.out))) : w.heap.size ≤ gb181)); have n3_ := Aside0.mk ((by rw [hg]; exact (below_size (by repeat (first | (with_reducible first | exact HB.out | apply below_alloc | apply pw_below_drewN | apply below_drew1) | exact HB.out))) : w.heap.size ≤ gb181)); clear HB; have HB := n0_; have BK181 := n1_; have GW181 := n2_; have GE181 := n3_; clear n0_ n1_ n2_ n3_; clear hb hbox hg; have hcz14_0 : w13.cell? ⟨gb181, 0, none⟩ = some (.int .u64 0) := (blk_cell BK181.out 0).trans rfl; have hcz14_1 : w13.cell? ⟨gb181, 1, none⟩ = some (.int .u64 0) := (blk_cell BK181.out 1).trans rfl; have hcz14_2 : w13.cell? ⟨gb181, 2, none⟩ = some (.int .u64 0) := (blk_cell BK181.out 2).trans rfl; have hcz14_3 : w13.cell? ⟨gb181, 3, none⟩ = some (.int .u64 0) := (blk_cell BK181.out 3).trans rfl; have hcz14_4 : w13.cell? ⟨gb181, 4, none⟩ = some (.int .i64 0) := (blk_cell BK181.out 4).trans rfl; have hcz14_5 : w13.cell? ⟨gb181, 5, none⟩ = some (.int .i64 0) := (blk_cell BK181.out 5).trans rfl; have hfz14_0 := blk_frozen BK181.out 0; have hfz14_1 := blk_frozen BK181.out 1; have hfz14_2 := blk_frozen BK181.out 2; have hfz14_3 := blk_frozen BK181.out 3; have hfz14_4 := blk_frozen BK181.out 4; have hfz14_5 := blk_frozen BK181.out 5) | ((with_reducible refine gate_dst (N := 11) rfl ?_); refine gate_gen4 (fun W : World => W.heap[gb181]? = some (Obj.cells #[.int .u64 1, .int .u64 18446744073709551614, .int .u64 t177, .int .u64 7, .int .i64 t179, .int .i64 t180] 36 (0, 0)) ∧ Below w.heap.size w W) ⟨(by (with_reducible repeat (first | refine blk_drewN ?_ _ | refine blk_drew ?_ | refine blk_alloc ?_ _)); refine blk_put (cs := #[.int .u64 1, .int .u64 t176, .int .u64 t177, .int .u64 7, .int .i64 t179, .int .i64 t180]) ?_ 1 _ rfl; refine blk_put (cs := #[.int .u64 t175, .int .u64 t176, .int .u64 t177, .int .u64 7, .int .i64 t179, .int .i64 t180]) ?_ 0 _ rfl; refine blk_put (cs := #[.int .u64 t175, .int .u64 t176, .int .u64 t177, .int .u64 t178, .int .i64 t179, .int .i64 t180]) ?_ 3 _ rfl; refine blk_put (cs := #[.int .u64 t175, .int .u64 t176, .int .u64 t177, .int .u64 t178, .int .i64 t179, .int .i64 0]) ?_ 5 _ rfl; refine blk_put (cs := #[.int .u64 t175, .int .u64 t176, .int .u64 t177, .int .u64 t178, .int .i64 0, .int .i64 0]) ?_ 4 _ rfl; refine blk_put (cs := #[.int .u64 t175, .int .u64 t176, .int .u64 t177, .int .u64 0, .int .i64 0, .int .i64 0]) ?_ 3 _ rfl; refine blk_put (cs := #[.int .u64 t175, .int .u64 t176, .int .u64 0, .int .u64 0, .int .i64 0, .int .i64 0]) ?_ 2 _ rfl; refine blk_put (cs := #[.int .u64 t175, .int .u64 0, .int .u64 0, .int .u64 0, .int .i64 0, .int .i64 0]) ?_ 1 _ rfl; refine blk_put (cs := #[.int .u64 0, .int .u64 0, .int .u64 0, .int .u64 0, .int .i64 0, .int .i64 0]) ?_ 0 _ rfl; (with_reducible repeat (first | refine blk_drewN ?_ _ | refine blk_drew ?_ | refine blk_alloc ?_ _)); exact BK181.out), (by repeat (first | (with_reducible first | exact HB.out | apply below_alloc | apply pw_below_drewN | apply below_drew1 | refine below_set ?_ GE181.out) | exact HB.out))⟩ ?_; rintro wg15 ⟨x0_, x1_⟩; have m0_ := Aside0.mk x0_; have m1_ := Aside0.mk x1_; clear BK181 HB x0_ x1_; have BK181 := m0_; have HB := m1_; clear m0_ m1_; have hgz15_gb181_0 : wg15.cell? ⟨gb181, 0, none⟩ = some (.int .u64 1) := (blk_cell BK181.out 0).trans rfl; have hgf15_gb181_0 := blk_frozen BK181.out 0; have hgz15_gb181_1 : wg15.cell? ⟨gb181, 1, none⟩ = some (.int .u64 18446744073709551614) := (blk_cell BK181.out 1).trans rfl; have hgf15_gb181_1 := blk_frozen BK181.out 1; have hgz15_gb181_2 : wg15.cell? ⟨gb181, 2, none⟩ = some (.int .u64 t177) := (blk_cell BK181.out 2).trans rfl; have hgf15_gb181_2 := blk_frozen BK181.out 2; have hgz15_gb181_3 : wg15.cell? ⟨gb181, 3, none⟩ = some (.int .u64 7) := (blk_cell BK181.out 3).trans rfl; have hgf15_gb181_3 := blk_frozen BK181.out 3; have hgz15_gb181_4 : wg15.cell? ⟨gb181, 4, none⟩ = some (.int .i64 t179) := (blk_cell BK181.out 4).trans rfl; have hgf15_gb181_4 := blk_frozen BK181.out 4; have hgz15_gb181_5 : wg15.cell? ⟨gb181, 5, none⟩ = some (.int .i64 t180) := (blk_cell BK181.out 5).trans rfl; have hgf15_gb181_5 := blk_frozen BK181.out 5) | ((with_reducible refine gate_callee (f := 19) rfl ?_); refine goesL_ (some 12) rfl rfl Try.func19 (by kernel_rfl) rfl #[.agg #[.int .u64 1, .int .u64 18446744073709551614, .int .u64 t177, .int .u64 7, .int .i64 t179, .int .i64 t180]] rfl (by (try simp only [List.map_toArray, List.map_cons, List.map_nil]); first | done | rfl | (simp only [List.length_drop, List.length_take]; rfl)) ?_; (with_reducible refine (num_Refine.calls 1 18446744073709551614 t177 7 t179 t180 t182 t183 t184 t185 t186 t187 true _ A2.out).mono ?_); rintro e w15 ⟨rfl, hb⟩; refine ⟨_, rfl, ?_⟩; have n0_ := Aside0.mk (blk_below (g := gb181) (o := .cells #[.int .u64 1, .int .u64 18446744073709551614, .int .u64 t177, .int .u64 7, .int .i64 t179, .int .i64 t180] 36 (0, 0)) (by exact BK181.out) hb); have n1_ := Aside0.mk (below_step (by repeat (first | (with_reducible first | exact HB.out | apply below_alloc | apply pw_below_drewN | apply below_drew1 | refine below_set ?_ GE181.out) | exact HB.out)) hb); clear BK181; clear HB; have BK181 := n0_; have HB := n1_; clear n0_ n1_; (try clear hb); (try clear hb2); (try clear hk); (try clear hi)) | ((with_reducible refine gate_dst (N := 2) rfl ?_); refine box_event ?hg (N := 2) ?hd (cs := #[.int .u64 0, .int .u64 0, .int .u64 0, .int .u64 0, .int .i64 0, .int .i64 0]) (t := 36) ?hr ?_; (case hd => rfl); (case hg => rfl); (case hr => first | (go_simp; done) | (go_simp; rfl)); intro gb189 hg w16 hbox hb; have n0_ := Aside0.mk (blk_below (g := gb181) (o := .cells #[.int .u64 1, .int .u64 18446744073709551614, .int .u64 t177, .int .u64 7, .int .i64 t179, .int .i64 t180] 36 (0, 0)) (by (with_reducible repeat (first | refine blk_drewN ?_ _ | refine blk_drew ?_ | refine blk_alloc ?_ _)); exact BK181.out) hb); have n1_ := Aside0.mk (below_step (by repeat (first | (with_reducible first | exact HB.out | apply below_alloc | apply pw_below_drewN | apply below_drew1 | refine below_set ?_ GE181.out) | exact HB.out)) hb); have n2_ := Aside0.mk (hbox); have n3_ := Aside0.mk ((by rw [hg]; exact (below_size (by repeat (first | (with_reducible first | exact HB.out | apply below_alloc | apply pw_below_drewN | apply below_drew1 | refine below_set ?_ GE181.out) | exact HB.out))) : w.heap.size ≤ gb189)); have n4_ := Aside0.mk ((by rw [hg]; exact (below_size (by repeat (first | (with_reducible first | exact HB.out | apply below_alloc | apply pw_below_drewN | apply below_drew1 | refine below_set ?_ GE181.out) | exact HB.out))) : w.heap.size ≤ gb189)); have n5_ := Aside0.mk ((by rw [hg]; exact Nat.ne_of_lt (blk_lt (g := gb181) (o := .cells #[.int .u64 1, .int .u64 18446744073709551614, .int .u64 t177, .int .u64 7, .int .i64 t179, .int .i64 t180] 36 (0, 0)) (by (with_reducible repeat (first | refine blk_drewN ?_ _ | refine blk_drew ?_ | refine blk_alloc ?_ _)); exact BK181.out)) : gb181 ≠ gb189)); have n6_ := Aside0.mk ((by rw [hg]; exact Nat.ne_of_gt (blk_lt (g := gb181) (o := .cells #[.int .u64 1, .int .u64 18446744073709551614, .int .u64 t177, .int .u64 7, .int .i64 t179, .int .i64 t180] 36 (0, 0)) (by (with_reducible repeat (first | refine blk_drewN ?_ _ | refine blk_drew ?_ | refine blk_alloc ?_ _)); exact BK181.out)) : gb189 ≠ gb181)); clear BK181; clear HB; have BK181 := n0_; have HB := n1_; have BK189 := n2_; have GW189 := n3_; have GE189 := n4_; have NB181_189 := n5_; have NB189_181 := n6_; clear n0_ n1_ n2_ n3_ n4_ n5_ n6_; clear hb hbox hg; have hnb17 := NB189_181.out; have hnc17 := NB181_189.out; have hcz18_0 : w16.cell? ⟨gb189, 0, none⟩ = some (.int .u64 0) := (blk_cell BK189.out 0).trans rfl; have hcz18_1 : w16.cell? ⟨gb189, 1, none⟩ = some (.int .u64 0) := (blk_cell BK189.out 1).trans rfl; have hcz18_2 : w16.cell? ⟨gb189, 2, none⟩ = some (.int .u64 0) := (blk_cell BK189.out 2).trans rfl; have hcz18_3 : w16.cell? ⟨gb189, 3, none⟩ = some (.int .u64 0) := (blk_cell BK189.out 3).trans rfl; have hcz18_4 : w16.cell? ⟨gb189, 4, none⟩ = some (.int .i64 0) := (blk_cell BK189.out 4).trans rfl; have hcz18_5 : w16.cell? ⟨gb189, 5, none⟩ = some (.int .i64 0) := (blk_cell BK189.out 5).trans rfl; have hfz18_0 := blk_frozen BK189.out 0; have hfz18_1 := blk_frozen BK189.out 1; have hfz18_2 := blk_frozen BK189.out 2; have hfz18_3 := blk_frozen BK189.out 3; have hfz18_4 := blk_frozen BK189.out 4; have hfz18_5 := blk_frozen BK189.out 5) | ((with_reducible refine gate_callee (f := 27) rfl ?_); refine goesL_ (some 16) rfl rfl Try.func27 (by kernel_rfl) rfl #[.int .u64 1] rfl (by (try simp only [List.map_toArray, List.map_cons, List.map_nil]); first | done | rfl | (simp only [List.length_drop, List.length_take]; rfl)) ?_; (with_reducible refine (num_Const.calls 1 t190 t191 t192 t193 t194 t195 _ A3.out).mono ?_); rintro e w19 ⟨rfl, hb⟩; refine ⟨_, rfl, ?_⟩; have n0_ := Aside0.mk (blk_below (g := gb181) (o := .cells #[.int .u64 1, .int .u64 18446744073709551614, .int .u64 t177, .int .u64 7, .int .i64 t179, .int .i64 t180] 36 (0, 0)) (by (with_reducible repeat (first | refine blk_drewN ?_ _ | refine blk_drew ?_ | refine blk_alloc ?_ _)); refine blk_far ?_ NB181_189.out _; refine blk_far ?_ NB181_189.out _; refine blk_far ?_ NB181_189.out _; refine blk_far ?_ NB181_189.out _; refine blk_far ?_ NB181_189.out _; refine blk_far ?_ NB181_189.out _; (with_reducible repeat (first | refine blk_drewN ?_ _ | refine blk_drew ?_ | refine blk_alloc ?_ _)); exact BK181.out) hb); have n1_ := Aside0.mk (blk_below (g := gb189) (o := .cells #[.int .u64 t182, .int .u64 t183, .int .u64 t184, .int .u64 t185, .int .i64 t186, .int .i64 t187] 36 (0, 0)) (by (with_reducible repeat (first | refine blk_drewN ?_ _ | refine blk_drew ?_ | refine blk_alloc ?_ _)); refine blk_put (cs := #[.int .u64 t182, .int .u64 t183, .int .u64 t184, .int .u64 t185, .int .i64 t186, .int .i64 0]) ?_ 5 _ rfl; refine blk_put (cs := #[.int .u64 t182, .int .u64 t183, .int .u64 t184, .int .u64 t185, .int .i64 0, .int .i64 0]) ?_ 4 _ rfl; refine blk_put (cs := #[.int .u64 t182, .int .u64 t183, .int .u64 t184, .int .u64 0, .int .i64 0, .int .i64 0]) ?_ 3 _ rfl; refine blk_put (cs := #[.int .u64 t182, .int .u64 t183, .int .u64 0, .int .u64 0, .int .i64 0, .int .i64 0]) ?_ 2 _ rfl; refine blk_put (cs := #[.int .u64 t182, .int .u64 0, .int .u64 0, .int .u64 0, .int .i64 0, .int .i64 0]) ?_ 1 _ rfl; refine blk_put (cs := #[.int .u64 0, .int .u64 0, .int .u64 0, .int .u64 0, .int .i64 0, .int .i64 0]) ?_ 0 _ rfl; (with_reducible repeat (first | refine blk_drewN ?_ _ | refine blk_drew ?_ | refine blk_alloc ?_ _)); exact BK189.out) hb); have n2_ := Aside0.mk (below_step (by repeat (first | (with_reducible first | exact HB.out | apply below_alloc | apply pw_below_drewN | apply below_drew1 | refine below_set ?_ GE181.out | refine below_set ?_ GE189.out) | exact HB.out)) hb); clear BK181; clear BK189; clear HB; have BK181 := n0_; have BK189 := n1_; have HB := n2_; clear n0_ n1_ n2_; (try clear hb); (try clear hb2); (try clear hk); (try clear hi)) | ((with_reducible refine gate_callee (f := 27) rfl ?_); refine goesL_ (some 17) rfl rfl Try.func27 (by kernel_rfl) rfl #[.int .u64 2] rfl (by (try simp only [List.map_toArray, List.map_cons, List.map_nil]); first | done | rfl | (simp only [List.length_drop, List.length_take]; rfl)) ?_; (with_reducible refine (num_Const.calls 2 t196 t197 t198 t199 t200 t201 _ A4.out).mono ?_); rintro e w20 ⟨rfl, hb⟩; refine ⟨_, rfl, ?_⟩; have n0_ := Aside0.mk (blk_below (g := gb181) (o := .cells #[.int .u64 1, .int .u64 18446744073709551614, .int .u64 t177, .int .u64 7, .int .i64 t179, .int .i64 t180] 36 (0, 0)) (by (with_reducible repeat (first | refine blk_drewN ?_ _ | refine blk_drew ?_ | refine blk_alloc ?_ _)); exact BK181.out) hb); have n1_ := Aside0.mk (blk_below (g := gb189) (o := .cells #[.int .u64 t182, .int .u64 t183, .int .u64 t184, .int .u64 t185, .int .i64 t186, .int .i64 t187] 36 (0, 0)) (by (with_reducible repeat (first | refine blk_drewN ?_ _ | refine blk_drew ?_ | refine blk_alloc ?_ _)); exact BK189.out) hb); have n2_ := Aside0.mk (below_step (by repeat (first | (with_reducible first | exact HB.out | apply below_alloc | apply pw_below_drewN | apply below_drew1 | refine below_set ?_ GE181.out | refine below_set ?_ GE189.out) | exact HB.out)) hb); clear BK181; clear BK189; clear HB; have BK181 := n0_; have BK189 := n1_; have HB := n2_; clear n0_ n1_ n2_; (try clear hb); (try clear hb2); (try clear hk); (try clear hi)) | ((with_reducible refine gate_callee (f := 21) rfl ?_); refine goesL_ (some 18) rfl rfl Try.func21 (by kernel_rfl) rfl #[.agg #[.int .u64 t190, .int .u64 t191, .int .u64 t192, .int .u64 t193, .int .i64 t194, .int .i64 t195], .agg #[.int .u64 t196, .int .u64 t197, .int .u64 t198, .int .u64 t199, .int .i64 t200, .int .i64 t201]] rfl (by (try simp only [List.map_toArray, List.map_cons, List.map_nil]); first | done | rfl | (simp only [List.length_drop, List.length_take]; rfl)) ?_; (with_reducible refine (num_Meet.calls t190 t191 t192 t193 t194 t195 t196 t197 t198 t199 t200 t201 t202 t203 t204 t205 t206 t207 t208 _ A5.out).mono ?_); rintro e w21 ⟨rfl, hb⟩; refine ⟨_, rfl, ?_⟩; have n0_ := Aside0.mk (blk_below (g := gb181) (o := .cells #[.int .u64 1, .int .u64 18446744073709551614, .int .u64 t177, .int .u64 7, .int .i64 t179, .int .i64 t180] 36 (0, 0)) (by (with_reducible repeat (first | refine blk_drewN ?_ _ | refine blk_drew ?_ | refine blk_alloc ?_ _)); exact BK181.out) hb); have n1_ := Aside0.mk (blk_below (g := gb189) (o := .cells #[.int .u64 t182, .int .u64 t183, .int .u64 t184, .int .u64 t185, .int .i64 t186, .int .i64 t187] 36 (0, 0)) (by (with_reducible repeat (first | refine blk_drewN ?_ _ | refine blk_drew ?_ | refine blk_alloc ?_ _)); exact BK189.out) hb); have n2_ := Aside0.mk (below_step (by repeat (first | (with_reducible first | exact HB.out | apply below_alloc | apply pw_below_drewN | apply below_drew1 | refine below_set ?_ GE181.out | refine below_set ?_ GE189.out) | exact HB.out)) hb); clear BK181; clear BK189; clear HB; have BK181 := n0_; have BK189 := n1_; have HB := n2_; clear n0_ n1_ n2_; (try clear hb); (try clear hb2); (try clear hk); (try clear hi)) | ((with_reducible refine gate_dst (N := 4) rfl ?_); refine box_event ?hg (N := 4) ?hd (cs := #[.int .u64 0, .int .u64 0, .int .u64 0, .int .u64 0, .int .i64 0, .int .i64 0]) (t := 36) ?hr ?_; (case hd => rfl); (case hg => rfl); (case hr => first | (go_simp; done) | (go_simp; rfl)); intro gb209 hg w22 hbox hb; have n0_ := Aside0.mk (blk_below (g := gb181) (o := .cells #[.int .u64 1, .int .u64 18446744073709551614, .int .u64 t177, .int .u64 7, .int .i64 t179, .int .i64 t180] 36 (0, 0)) (by (with_reducible repeat (first | refine blk_drewN ?_ _ | refine blk_drew ?_ | refine blk_alloc ?_ _)); exact BK181.out) hb); have n1_ := Aside0.mk (blk_below (g := gb189) (o := .cells #[.int .u64 t182, .int .u64 t183, .int .u64 t184, .int .u64 t185, .int .i64 t186, .int .i64 t187] 36 (0, 0)) (by (with_reducible repeat (first | refine blk_drewN ?_ _ | refine blk_drew ?_ | refine blk_alloc ?_ _)); exact BK189.out) hb); have n2_ := Aside0.mk (below_step (by repeat (first | (with_reducible first | exact HB.out | apply below_alloc | apply pw_below_drewN | apply below_drew1 | refine below_set ?_ GE181.out | refine below_set ?_ GE189.out) | exact HB.out)) hb); have n3_ := Aside0.mk (hbox); have n4_ := Aside0.mk ((by rw [hg]; exact (below_size (by repeat (first | (with_reducible first | exact HB.out | apply below_alloc | apply pw_below_drewN | apply below_drew1 | refine below_set ?_ GE181.out | refine below_set ?_ GE189.out) | exact HB.out))) : w.heap.size ≤ gb209)); have n5_ := Aside0.mk ((by rw [hg]; exact (below_size (by repeat (first | (with_reducible first | exact HB.out | apply below_alloc | apply pw_below_drewN | apply below_drew1 | refine below_set ?_ GE181.out | refine below_set ?_ GE189.out) | exact HB.out))) : w.heap.size ≤ gb209)); have n6_ := Aside0.mk ((by rw [hg]; exact Nat.ne_of_lt (blk_lt (g := gb181) (o := .cells #[.int .u64 1, .int .u64 18446744073709551614, .int .u64 t177, .int .u64 7, .int .i64 t179, .int .i64 t180] 36 (0, 0)) (by (with_reducible repeat (first | refine blk_drewN ?_ _ | refine blk_drew ?_ | refine blk_alloc ?_ _)); exact BK181.out)) : gb181 ≠ gb209)); have n7_ := Aside0.mk ((by rw [hg]; exact Nat.ne_of_gt (blk_lt (g := gb181) (o := .cells #[.int .u64 1, .int .u64 18446744073709551614, .int .u64 t177, .int .u64 7, .int .i64 t179, .int .i64 t180] 36 (0, 0)) (by (with_reducible repeat (first | refine blk_drewN ?_ _ | refine blk_drew ?_ | refine blk_alloc ?_ _)); exact BK181.out)) : gb209 ≠ gb181)); have n8_ := Aside0.mk ((by rw [hg]; exact Nat.ne_of_lt (blk_lt (g := gb189) (o := .cells #[.int .u64 t182, .int .u64 t183, .int .u64 t184, .int .u64 t185, .int .i64 t186, .int .i64 t187] 36 (0, 0)) (by (with_reducible repeat (first | refine blk_drewN ?_ _ | refine blk_drew ?_ | refine blk_alloc ?_ _)); exact BK189.out)) : gb189 ≠ gb209)); have n9_ := Aside0.mk ((by rw [hg]; exact Nat.ne_of_gt (blk_lt (g := gb189) (o := .cells #[.int .u64 t182, .int .u64 t183, .int .u64 t184, .int .u64 t185, .int .i64 t186, .int .i64 t187] 36 (0, 0)) (by (with_reducible repeat (first | refine blk_drewN ?_ _ | refine blk_drew ?_ | refine blk_alloc ?_ _)); exact BK189.out)) : gb209 ≠ gb189)); clear BK181; clear BK189; clear HB; have BK181 := n0_; have BK189 := n1_; have HB := n2_; have BK209 := n3_; have GW209 := n4_; have GE209 := n5_; have NB181_209 := n6_; have NB209_181 := n7_; have NB189_209 := n8_; have NB209_189 := n9_; clear n0_ n1_ n2_ n3_ n4_ n5_ n6_ n7_ n8_ n9_; clear hb hbox hg; have hnb23 := NB209_181.out; have hnc23 := NB181_209.out; have hnb24 := NB209_189.out; have hnc24 := NB189_209.out; have hcz25_0 : w22.cell? ⟨gb209, 0, none⟩ = some (.int .u64 0) := (blk_cell BK209.out 0).trans rfl; have hcz25_1 : w22.cell? ⟨gb209, 1, none⟩ = some (.int .u64 0) := (blk_cell BK209.out 1).trans rfl; have hcz25_2 : w22.cell? ⟨gb209, 2, none⟩ = some (.int .u64 0) := (blk_cell BK209.out 2).trans rfl; have hcz25_3 : w22.cell? ⟨gb209, 3, none⟩ = some (.int .u64 0) := (blk_cell BK209.out 3).trans rfl; have hcz25_4 : w22.cell? ⟨gb209, 4, none⟩ = some (.int .i64 0) := (blk_cell BK209.out 4).trans rfl; have hcz25_5 : w22.cell? ⟨gb209, 5, none⟩ = some (.int .i64 0) := (blk_cell BK209.out 5).trans rfl; have hfz25_0 := blk_frozen BK209.out 0; have hfz25_1 := blk_frozen BK209.out 1; have hfz25_2 := blk_frozen BK209.out 2; have hfz25_3 := blk_frozen BK209.out 3; have hfz25_4 := blk_frozen BK209.out 4; have hfz25_5 := blk_frozen BK209.out 5; have hcz26_0 : w22.cell? ⟨gb189, 0, none⟩ = some (.int .u64 t182) := (blk_cell BK189.out 0).trans rfl; have hcz26_1 : w22.cell? ⟨gb189, 1, none⟩ = some (.int .u64 t183) := (blk_cell BK189.out 1).trans rfl; have hcz26_2 : w22.cell? ⟨gb189, 2, none⟩ = some (.int .u64 t184) := (blk_cell BK189.out 2).trans rfl; have hcz26_3 : w22.cell? ⟨gb189, 3, none⟩ = some (.int .u64 t185) := (blk_cell BK189.out 3).trans rfl; have hcz26_4 : w22.cell? ⟨gb189, 4, none⟩ = some (.int .i64 t186) := (blk_cell BK189.out 4).trans rfl; have hcz26_5 : w22.cell? ⟨gb189, 5, none⟩ = some (.int .i64 t187) := (blk_cell BK189.out 5).trans rfl; have hfz26_0 := blk_frozen BK189.out 0; have hfz26_1 := blk_frozen BK189.out 1; have hfz26_2 := blk_frozen BK189.out 2; have hfz26_3 := blk_frozen BK189.out 3; have hfz26_4 := blk_frozen BK189.out 4; have hfz26_5 := blk_frozen BK189.out 5) | (go_at_call 29; (with_reducible refine (num_All.calls  t210 t211 t212 t213 t214 t215 _ A9.out).mono ?_); rintro e w27 ⟨rfl, hb⟩; have n0_ := Aside0.mk (blk_below (g := gb181) (o := .cells #[.int .u64 1, .int .u64 18446744073709551614, .int .u64 t177, .int .u64 7, .int .i64 t179, .int .i64 t180] 36 (0, 0)) (by (with_reducible repeat (first | refine blk_drewN ?_ _ | refine blk_drew ?_ | refine blk_alloc ?_ _)); refine blk_far ?_ NB181_209.out _; refine blk_far ?_ NB181_209.out _; refine blk_far ?_ NB181_209.out _; refine blk_far ?_ NB181_209.out _; refine blk_far ?_ NB181_209.out _; refine blk_far ?_ NB181_209.out _; (with_reducible repeat (first | refine blk_drewN ?_ _ | refine blk_drew ?_ | refine blk_alloc ?_ _)); exact BK181.out) hb); have n1_ := Aside0.mk (blk_below (g := gb189) (o := .cells #[.int .u64 t182, .int .u64 t183, .int .u64 t184, .int .u64 t185, .int .i64 t186, .int .i64 t187] 36 (0, 0)) (by (with_reducible repeat (first | refine blk_drewN ?_ _ | refine blk_drew ?_ | refine blk_alloc ?_ _)); refine blk_far ?_ NB189_209.out _; refine blk_far ?_ NB189_209.out _; refine blk_far ?_ NB189_209.out _; refine blk_far ?_ NB189_209.out _; refine blk_far ?_ NB189_209.out _; refine blk_far ?_ NB189_209.out _; (with_reducible repeat (first | refine blk_drewN ?_ _ | refine blk_drew ?_ | refine blk_alloc ?_ _)); exact BK189.out) hb); have n2_ := Aside0.mk (blk_below (g := gb209) (o := .cells #[.int .u64 t202, .int .u64 t203, .int .u64 t204, .int .u64 t205, .int .i64 t206, .int .i64 t207] 36 (0, 0)) (by (with_reducible repeat (first | refine blk_drewN ?_ _ | refine blk_drew ?_ | refine blk_alloc ?_ _)); refine blk_put (cs := #[.int .u64 t202, .int .u64 t203, .int .u64 t204, .int .u64 t205, .int .i64 t206, .int .i64 0]) ?_ 5 _ rfl; refine blk_put (cs := #[.int .u64 t202, .int .u64 t203, .int .u64 t204, .int .u64 t205, .int .i64 0, .int .i64 0]) ?_ 4 _ rfl; refine blk_put (cs := #[.int .u64 t202, .int .u64 t203, .int .u64 t204, .int .u64 0, .int .i64 0, .int .i64 0]) ?_ 3 _ rfl; refine blk_put (cs := #[.int .u64 t202, .int .u64 t203, .int .u64 0, .int .u64 0, .int .i64 0, .int .i64 0]) ?_ 2 _ rfl; refine blk_put (cs := #[.int .u64 t202, .int .u64 0, .int .u64 0, .int .u64 0, .int .i64 0, .int .i64 0]) ?_ 1 _ rfl; refine blk_put (cs := #[.int .u64 0, .int .u64 0, .int .u64 0, .int .u64 0, .int .i64 0, .int .i64 0]) ?_ 0 _ rfl; (with_reducible repeat (first | refine blk_drewN ?_ _ | refine blk_drew ?_ | refine blk_alloc ?_ _)); exact BK209.out) hb); have n3_ := Aside0.mk (below_step (by repeat (first | (with_reducible first | exact HB.out | apply below_alloc | apply pw_below_drewN | apply below_drew1 | refine below_set ?_ GE181.out | refine below_set ?_ GE189.out | refine below_set ?_ GE209.out) | exact HB.out)) hb); clear BK181; clear BK189; clear BK209; clear HB; have BK181 := n0_; have BK189 := n1_; have BK209 := n2_; have HB := n3_; clear n0_ n1_ n2_ n3_; (try clear hb); (try clear hb2); (try clear hk); (try clear hi)) | (go_at_call 23; (with_reducible refine (num_Cut.calls k t210 t211 t212 t213 t214 t215 1 t216 t217 t218 t219 t220 t221 _ A10.out).mono ?_); rintro e w28 ⟨rfl, hb⟩; have n0_ := Aside0.mk (blk_below (g := gb181) (o := .cells #[.int .u64 1, .int .u64 18446744073709551614, .int .u64 t177, .int .u64 7, .int .i64 t179, .int .i64 t180] 36 (0, 0)) (by (with_reducible repeat (first | refine blk_drewN ?_ _ | refine blk_drew ?_ | refine blk_alloc ?_ _)); exact BK181.out) hb); have n1_ := Aside0.mk (blk_below (g := gb189) (o := .cells #[.int .u64 t182, .int .u64 t183, .int .u64 t184, .int .u64 t185, .int .i64 t186, .int .i64 t187] 36 (0, 0)) (by (with_reducible repeat (first | refine blk_drewN ?_ _ | refine blk_drew ?_ | refine blk_alloc ?_ _)); exact BK189.out) hb); have n2_ := Aside0.mk (blk_below (g := gb209) (o := .cells #[.int .u64 t202, .int .u64 t203, .int .u64 t204, .int .u64 t205, .int .i64 t206, .int .i64 t207] 36 (0, 0)) (by (with_reducible repeat (first | refine blk_drewN ?_ _ | refine blk_drew ?_ | refine blk_alloc ?_ _)); exact BK209.out) hb); have n3_ := Aside0.mk (below_step (by repeat (first | (with_reducible first | exact HB.out | apply below_alloc | apply pw_below_drewN | apply below_drew1 | refine below_set ?_ GE181.out | refine below_set ?_ GE189.out | refine below_set ?_ GE209.out) | exact HB.out)) hb); clear BK181; clear BK189; clear BK209; clear HB; have BK181 := n0_; have BK189 := n1_; have BK209 := n2_; have HB := n3_; clear n0_ n1_ n2_ n3_; (try clear hb); (try clear hb2); (try clear hk); (try clear hi)))
          go_ret
          exact ⟨by first | rfl | (simp [errW_none, errW_some] <;> rfl) | (simp [*, errW_none, errW_some] <;> rfl), by repeat (first | (with_reducible first | exact HB.out | apply below_alloc | apply pw_below_drewN | apply below_drew1 | refine below_set ?_ GE181.out | refine below_set ?_ GE189.out | refine below_set ?_ GE209.out) | exact HB.out)⟩
        · refine absurd ?_ c11
          have a := A9.out
          rw [show num_All.f = some (0, 18446744073709551615, 0, 18446744073709551615, (-9223372036854775808), 9223372036854775807) from rfl] at a
          simp only [Option.some.injEq, Prod.mk.injEq] at a
          obtain ⟨rfl, rfl, rfl, rfl, rfl, rfl⟩ := a
          have b := A10.out
          cases k with
          | zero => rw [show num_Cut.f 0 0 18446744073709551615 0 18446744073709551615 (-9223372036854775808) 9223372036854775807 1 = none by kernel_rfl] at b; exact absurd b (by simp)
          | succ k =>
            have c : (num_Cut.f (k + 1) 0 18446744073709551615 0 18446744073709551615 (-9223372036854775808) 9223372036854775807 1).map (fun t => t.2.2.2.1) = some 255 := by kernel_rfl
            rw [b] at c
            exact Option.some.inj c
      · refine absurd ?_ c8
        have a := A1.out
        rw [show num_All.f = some (0, 18446744073709551615, 0, 18446744073709551615, (-9223372036854775808), 9223372036854775807) from rfl] at a
        simp only [Option.some.injEq, Prod.mk.injEq] at a
        obtain ⟨rfl, rfl, rfl, rfl, rfl, rfl⟩ := a
        have b := A2.out
        have c : (num_Refine.f 1 18446744073709551614 0 7 (-9223372036854775808) 9223372036854775807).map (fun t => t.2.2.2.1) = some 7 := by kernel_rfl
        rw [b] at c
        exact Option.some.inj c
    · refine absurd ?_ c7
      have a := A1.out
      rw [show num_All.f = some (0, 18446744073709551615, 0, 18446744073709551615, (-9223372036854775808), 9223372036854775807) from rfl] at a
      simp only [Option.some.injEq, Prod.mk.injEq] at a
      obtain ⟨rfl, rfl, rfl, rfl, rfl, rfl⟩ := a
      have b := A2.out
      have c : (num_Refine.f 1 18446744073709551614 0 7 (-9223372036854775808) 9223372036854775807).map (fun t => t.2.2.1) = some 1 := by kernel_rfl
      rw [b] at c
      exact Option.some.inj c
  · refine absurd ?_ c6
    have a := A1.out
    rw [show num_All.f = some (0, 18446744073709551615, 0, 18446744073709551615, (-9223372036854775808), 9223372036854775807) from rfl] at a
    simp only [Option.some.injEq, Prod.mk.injEq] at a
    obtain ⟨rfl, rfl, rfl, rfl, rfl, rfl⟩ := a
    have b := A2.out
    have c : (num_Refine.f 1 18446744073709551614 0 7 (-9223372036854775808) 9223372036854775807).map (fun t => t.2.2.2.2.2.2) = some true := by kernel_rfl
    rw [b] at c
    exact Option.some.inj c

/-! ### halberdref07_All: function 30 -/
def halberdref07_All.f  : Option (Int × Int × Int × Int × Int × Int) := some (0, 18446744073709551615, 0, 18446744073709551615, (-9223372036854775808), 9223372036854775807)
set_option maxHeartbeats 8000000 in
set_option maxRecDepth 100000 in
theorem halberdref07_All.calls  (r1 : Int) (r2 : Int) (r3 : Int) (r4 : Int) (r5 : Int) (r6 : Int) (w : World) (h : halberdref07_All.f  = some (r1, r2, r3, r4, r5, r6)) :
    Calls Try.prog 30 #[] w fun e w' => e = .returned (.agg #[.int .u64 r1, .int .u64 r2, .int .u64 r3, .int .u64 r4, .int .i64 r5, .int .i64 r6]) ∧ Below w.heap.size w w' := by
  have hu36 := Try.underlying36
  have hu34 := Try.underlying34
  have HB := Aside0.mk (Below.refl w.heap.size w)
  have H : (some (0, 18446744073709551615, 0, 18446744073709551615, (-9223372036854775808), 9223372036854775807)) = some (r1, r2, r3, r4, r5, r6) := h
  clear h
  simp only [Option.some.injEq, Prod.mk.injEq] at H
  obtain ⟨rfl, rfl, rfl, rfl, rfl, rfl⟩ := H
  go_enter Try.func30, Try.ntmps30
  go_wp2_with (first | ((with_reducible refine gate_dst (N := 0) rfl ?_); refine box_event ?hg (N := 0) ?hd (cs := #[.int .u64 0, .int .u64 0, .int .u64 0, .int .u64 0, .int .i64 0, .int .i64 0]) (t := 36) ?hr ?_; (case hd => rfl); (case hg => rfl); (case hr => first | (go_simp; done) | (go_simp; rfl)); intro gb222 hg w1 hbox hb; have n0_ := Aside0.mk (below_step (by repeat (first | (with_reducible first | exact HB.out | apply below_alloc | apply pw_below_drewN | apply below_drew1) | exact HB.out)) hb); have n1_ := Aside0.mk (hbox); have n2_ := Aside0.mk ((by rw [hg]; exact (below_size (by repeat (first | (with_reducible first | exact HB.out | apply below_alloc | apply pw_below_drewN | apply below_drew1) | exact HB.out))) : w.heap.size ≤ gb222)); have n3_ := Aside0.mk ((by rw [hg]; exact (below_size (by repeat (first | (with_reducible first | exact HB.out | apply below_alloc | apply pw_below_drewN | apply below_drew1) | exact HB.out))) : w.heap.size ≤ gb222)); clear HB; have HB := n0_; have BK222 := n1_; have GW222 := n2_; have GE222 := n3_; clear n0_ n1_ n2_ n3_; clear hb hbox hg; have hcz2_0 : w1.cell? ⟨gb222, 0, none⟩ = some (.int .u64 0) := (blk_cell BK222.out 0).trans rfl; have hcz2_1 : w1.cell? ⟨gb222, 1, none⟩ = some (.int .u64 0) := (blk_cell BK222.out 1).trans rfl; have hcz2_2 : w1.cell? ⟨gb222, 2, none⟩ = some (.int .u64 0) := (blk_cell BK222.out 2).trans rfl; have hcz2_3 : w1.cell? ⟨gb222, 3, none⟩ = some (.int .u64 0) := (blk_cell BK222.out 3).trans rfl; have hcz2_4 : w1.cell? ⟨gb222, 4, none⟩ = some (.int .i64 0) := (blk_cell BK222.out 4).trans rfl; have hcz2_5 : w1.cell? ⟨gb222, 5, none⟩ = some (.int .i64 0) := (blk_cell BK222.out 5).trans rfl; have hfz2_0 := blk_frozen BK222.out 0; have hfz2_1 := blk_frozen BK222.out 1; have hfz2_2 := blk_frozen BK222.out 2; have hfz2_3 := blk_frozen BK222.out 3; have hfz2_4 := blk_frozen BK222.out 4; have hfz2_5 := blk_frozen BK222.out 5))
  refine bodyPost_ret (results_cell_row rfl _ _ gb222 36 #[.int .u64 0, .int .u64 18446744073709551615, .int .u64 0, .int .u64 18446744073709551615, .int .i64 (-9223372036854775808), .int .i64 9223372036854775807] (0, 0) _ rfl (by (with_reducible repeat (first | refine blk_drewN ?_ _ | refine blk_drew ?_ | refine blk_alloc ?_ _)); refine blk_put (cs := #[.int .u64 0, .int .u64 18446744073709551615, .int .u64 0, .int .u64 18446744073709551615, .int .i64 (-9223372036854775808), .int .i64 0]) ?_ 5 _ rfl; refine blk_put (cs := #[.int .u64 0, .int .u64 18446744073709551615, .int .u64 0, .int .u64 18446744073709551615, .int .i64 0, .int .i64 0]) ?_ 4 _ rfl; refine blk_put (cs := #[.int .u64 0, .int .u64 18446744073709551615, .int .u64 0, .int .u64 0, .int .i64 0, .int .i64 0]) ?_ 3 _ rfl; refine blk_put (cs := #[.int .u64 0, .int .u64 18446744073709551615, .int .u64 0, .int .u64 0, .int .i64 0, .int .i64 0]) ?_ 2 _ rfl; refine blk_put (cs := #[.int .u64 0, .int .u64 0, .int .u64 0, .int .u64 0, .int .i64 0, .int .i64 0]) ?_ 1 _ rfl; refine blk_put (cs := #[.int .u64 0, .int .u64 0, .int .u64 0, .int .u64 0, .int .i64 0, .int .i64 0]) ?_ 0 _ rfl; (with_reducible repeat (first | refine blk_drewN ?_ _ | refine blk_drew ?_ | refine blk_alloc ?_ _)); exact BK222.out) Try.underlying36 rfl (by kernel_rfl)) rfl ?_
  exact ⟨by first | rfl | (simp [errW_none, errW_some] <;> rfl) | (simp [*, errW_none, errW_some] <;> rfl), by repeat (first | (with_reducible first | exact HB.out | apply below_alloc | apply pw_below_drewN | apply below_drew1 | refine below_set ?_ GE222.out) | exact HB.out)⟩

/-! ### halberdref06_Bit: function 88 -/
def halberdref06_Bit.l0 : Nat → Int → Int → Int → Int → Option (Bool × Bool)
  | 0, _, _, _, _ => none
  | k + 1, x1, x6, x7, x8 => if x8 < x1 then (halberdref06_Bit.l0 k x1 (IntKind.u64.wrap (Int.tdiv x6 2)) (IntKind.u64.wrap (Int.tdiv x7 2)) (wrap64 (x8 + 1))) else (if (Int.tmod x6 2) = 1 then (some (true, true)) else (some (((Int.tmod x7 2) == 0), ((Int.tmod x7 2) == 1))))
def halberdref06_Bit.f (k : Nat) (a0_0 : Int) (a0_1 : Int) (a1 : Int) : Option (Bool × Bool) := halberdref06_Bit.l0 k a1 a0_1 a0_0 0
theorem halberdref06_Bit.mono_l : ∀ k, (∀ y0 y1 y2 y3, LeO (halberdref06_Bit.l0 k y0 y1 y2 y3) (halberdref06_Bit.l0 (k + 1) y0 y1 y2 y3))
  | 0 => fun _ _ _ _ r h => by simp [halberdref06_Bit.l0] at h
  | k + 1 => by
    have ih0 := halberdref06_Bit.mono_l k
    · intro y0 y1 y2 y3
      unfold halberdref06_Bit.l0
      repeat' first
      | (with_reducible exact ih0 _ _ _ _)
      | (with_reducible exact LeO.refl _)
      | (with_reducible exact LeO.none _)
      | (with_reducible refine LeO.ite ?_ ?_)
      | (with_reducible refine LeO.bind ?_ (fun _ => ?_))
      | exact ih0 _ _ _ _
      | exact LeO.none _
      | refine LeO.ite ?_ ?_
      | refine LeO.bind ?_ (fun _ => ?_)
theorem halberdref06_Bit.mono : ∀ a0 a1 a2 k, LeO (halberdref06_Bit.f k a0 a1 a2) (halberdref06_Bit.f (k + 1) a0 a1 a2) := by
  intro a0 a1 a2 k
  have ih0 := halberdref06_Bit.mono_l k
  unfold halberdref06_Bit.f
  repeat' first
      | (with_reducible exact ih0 _ _ _ _)
      | (with_reducible exact LeO.refl _)
      | (with_reducible exact LeO.none _)
      | (with_reducible refine LeO.ite ?_ ?_)
      | (with_reducible refine LeO.bind ?_ (fun _ => ?_))
      | exact ih0 _ _ _ _
      | exact LeO.none _
      | refine LeO.ite ?_ ?_
      | refine LeO.bind ?_ (fun _ => ?_)
set_option maxHeartbeats 8000000 in
set_option maxRecDepth 100000 in
theorem halberdref06_Bit.calls (k : Nat) (a0_0 : Int) (a0_1 : Int) (a1 : Int) (r1 : Bool) (r2 : Bool) (w : World) (h : halberdref06_Bit.f k a0_0 a0_1 a1 = some (r1, r2)) :
    Calls Try.prog 88 #[.agg #[.int .u64 a0_0, .int .u64 a0_1], .int .i64 a1] w fun e w' => e = .returned (.tuple #[.bool r1, .bool r2]) ∧ Below w.heap.size w w' := by
  have hu34 := Try.underlying34
  have HB := Aside0.mk (Below.refl w.heap.size w)
  have H : (halberdref06_Bit.l0 k a1 a0_1 a0_0 0) = some (r1, r2) := h
  clear h
  have H' := Aside0.mk H
  clear H
  go_enter Try.func88, Try.ntmps88
  go_wp2_with (first | ((with_reducible refine gate_dst (N := 2) rfl ?_); refine box_event ?hg (N := 2) ?hd (cs := #[.int .u64 a0_0, .int .u64 a0_1]) (t := 34) ?hr ?_; (case hd => rfl); (case hg => rfl); (case hr => first | (go_simp; done) | (go_simp; rfl)); intro gb223 hg w3 hbox hb; have n0_ := Aside0.mk (below_step (by repeat (first | (with_reducible first | exact HB.out | apply below_alloc | apply pw_below_drewN | apply below_drew1) | exact HB.out)) hb); have n1_ := Aside0.mk (hbox); have n2_ := Aside0.mk ((by rw [hg]; exact (below_size (by repeat (first | (with_reducible first | exact HB.out | apply below_alloc | apply pw_below_drewN | apply below_drew1) | exact HB.out))) : w.heap.size ≤ gb223)); have n3_ := Aside0.mk ((by rw [hg]; exact (below_size (by repeat (first | (with_reducible first | exact HB.out | apply below_alloc | apply pw_below_drewN | apply below_drew1) | exact HB.out))) : w.heap.size ≤ gb223)); clear HB; have HB := n0_; have BK223 := n1_; have GW223 := n2_; have GE223 := n3_; clear n0_ n1_ n2_ n3_; clear hb hbox hg; have hcz4_0 : w3.cell? ⟨gb223, 0, none⟩ = some (.int .u64 a0_0) := (blk_cell BK223.out 0).trans rfl; have hcz4_1 : w3.cell? ⟨gb223, 1, none⟩ = some (.int .u64 a0_1) := (blk_cell BK223.out 1).trans rfl; have hfz4_0 := blk_frozen BK223.out 0; have hfz4_1 := blk_frozen BK223.out 1))
  repeat (go_quiet (first | ((with_reducible refine gate_dst (N := 2) rfl ?_); refine box_event ?hg (N := 2) ?hd (cs := #[.int .u64 a0_0, .int .u64 a0_1]) (t := 34) ?hr ?_; (case hd => rfl); (case hg => rfl); (case hr => first | (go_simp; done) | (go_simp; rfl)); intro gb223 hg w3 hbox hb; have n0_ := Aside0.mk (below_step (by repeat (first | (with_reducible first | exact HB.out | apply below_alloc | apply pw_below_drewN | apply below_drew1) | exact HB.out)) hb); have n1_ := Aside0.mk (hbox); have n2_ := Aside0.mk ((by rw [hg]; exact (below_size (by repeat (first | (with_reducible first | exact HB.out | apply below_alloc | apply pw_below_drewN | apply below_drew1) | exact HB.out))) : w.heap.size ≤ gb223)); have n3_ := Aside0.mk ((by rw [hg]; exact (below_size (by repeat (first | (with_reducible first | exact HB.out | apply below_alloc | apply pw_below_drewN | apply below_drew1) | exact HB.out))) : w.heap.size ≤ gb223)); clear HB; have HB := n0_; have BK223 := n1_; have GW223 := n2_; have GE223 := n3_; clear n0_ n1_ n2_ n3_; clear hb hbox hg; have hcz4_0 : w3.cell? ⟨gb223, 0, none⟩ = some (.int .u64 a0_0) := (blk_cell BK223.out 0).trans rfl; have hcz4_1 : w3.cell? ⟨gb223, 1, none⟩ = some (.int .u64 a0_1) := (blk_cell BK223.out 1).trans rfl; have hfz4_0 := blk_frozen BK223.out 0; have hfz4_1 := blk_frozen BK223.out 1)); try go_wp2_with (first | ((with_reducible refine gate_dst (N := 2) rfl ?_); refine box_event ?hg (N := 2) ?hd (cs := #[.int .u64 a0_0, .int .u64 a0_1]) (t := 34) ?hr ?_; (case hd => rfl); (case hg => rfl); (case hr => first | (go_simp; done) | (go_simp; rfl)); intro gb223 hg w3 hbox hb; have n0_ := Aside0.mk (below_step (by repeat (first | (with_reducible first | exact HB.out | apply below_alloc | apply pw_below_drewN | apply below_drew1) | exact HB.out)) hb); have n1_ := Aside0.mk (hbox); have n2_ := Aside0.mk ((by rw [hg]; exact (below_size (by repeat (first | (with_reducible first | exact HB.out | apply below_alloc | apply pw_below_drewN | apply below_drew1) | exact HB.out))) : w.heap.size ≤ gb223)); have n3_ := Aside0.mk ((by rw [hg]; exact (below_size (by repeat (first | (with_reducible first | exact HB.out | apply below_alloc | apply pw_below_drewN | apply below_drew1) | exact HB.out))) : w.heap.size ≤ gb223)); clear HB; have HB := n0_; have BK223 := n1_; have GW223 := n2_; have GE223 := n3_; clear n0_ n1_ n2_ n3_; clear hb hbox hg; have hcz4_0 : w3.cell? ⟨gb223, 0, none⟩ = some (.int .u64 a0_0) := (blk_cell BK223.out 0).trans rfl; have hcz4_1 : w3.cell? ⟨gb223, 1, none⟩ = some (.int .u64 a0_1) := (blk_cell BK223.out 1).trans rfl; have hfz4_0 := blk_frozen BK223.out 0; have hfz4_1 := blk_frozen BK223.out 1)))
  go_loopg [6, 7, 8] k (fun kq v6 v7 v8 w' => ∃ (x6_1 : Int) (x7_1 : Int) (x8_1 : Int), v6 = .int .u64 x6_1 ∧ v7 = .int .u64 x7_1 ∧ v8 = .int .i64 x8_1 ∧ Aside0 (halberdref06_Bit.l0 kq a1 x6_1 x7_1 x8_1 = some (r1, r2)) ∧ Aside0 (kq ≤ k) ∧ Aside0 (w'.heap[gb223]? = some (.cells #[.int .u64 a0_0, .int .u64 a0_1] 34 (0, 0))) ∧ Aside0 (Below w.heap.size w w'))
  case atStart => exact ⟨(a0_1), (a0_0), (0), (by first | rfl | (simp; done) | (simp [*]; done)), (by first | rfl | (simp; done) | (simp [*]; done)), (by first | rfl | (simp; done) | (simp [*]; done)), H', ⟨Nat.le_refl _⟩, ⟨by (with_reducible repeat (first | refine blk_drewN ?_ _ | refine blk_drew ?_ | refine blk_alloc ?_ _)); exact BK223.out⟩, ⟨by repeat (first | (with_reducible first | exact HB.out | apply below_alloc | apply pw_below_drewN | apply below_drew1 | refine below_set ?_ GE223.out) | exact HB.out)⟩⟩
  case round =>
    clear H'
    try clear p2
    try clear hcz4_0
    try clear hcz4_1
    try clear hfz4_0
    try clear hfz4_1
    obtain ⟨x6_1, x7_1, x8_1, rfl, rfl, rfl, HA, HK1, BK223, HB⟩ := hrel
    cases gk with
    | zero => exact absurd HA.out (by simp [halberdref06_Bit.l0])
    | succ k1 =>
      have H := HA.out
      clear HA
      simp only [halberdref06_Bit.l0] at H
      by_cases c5 : x8_1 < a1
      · rw [if_pos c5] at H
        have c5b0 : decide (x8_1 < a1) = true := decide_eq_true c5
        clear c5
        have H' := Aside0.mk H
        clear H
        go_wp2
        repeat (go_quiet (fail); try go_wp2)
        go_roundg k1
        case measure => have := HK1.out; omega
        case rel => exact ⟨(IntKind.u64.wrap (Int.tdiv x6_1 2)), (IntKind.u64.wrap (Int.tdiv x7_1 2)), (wrap64 (x8_1 + 1)), (by first | rfl | (simp; done) | (simp [*]; done)), (by first | rfl | (simp; done) | (simp [*]; done)), (by first | rfl | (simp; done) | (simp [*]; done)), H', ⟨by have := HK1.out; omega⟩, ⟨by (with_reducible repeat (first | refine blk_drewN ?_ _ | refine blk_drew ?_ | refine blk_alloc ?_ _)); exact BK223.out⟩, ⟨by repeat (first | (with_reducible first | exact HB.out | apply below_alloc | apply pw_below_drewN | apply below_drew1 | refine below_set ?_ GE223.out) | exact HB.out)⟩⟩
      · rw [if_neg c5] at H
        have c5b0 : decide (x8_1 < a1) = false := decide_eq_false c5
        clear c5
        by_cases c6 : (Int.tmod x6_1 2) = 1
        · rw [if_pos c6] at H
          have c6b0 : ((Int.tmod x6_1 2) == 1) = true := beq_iff_eq.mpr c6
          have c6b1 : ((Int.tmod x6_1 2) != 1) = false := bne_eq_false_iff_eq.mpr c6
          clear c6
          simp only [Option.some.injEq, Prod.mk.injEq] at H
          obtain ⟨rfl, rfl⟩ := H
          go_wp2
          repeat (go_quiet (fail); try go_wp2)
          go_ret2
          exact ⟨by first | rfl | (simp [errW_none, errW_some] <;> rfl) | (simp [*, errW_none, errW_some] <;> rfl), by repeat (first | (with_reducible first | exact HB.out | apply below_alloc | apply pw_below_drewN | apply below_drew1 | refine below_set ?_ GE223.out) | exact HB.out)⟩
        · rw [if_neg c6] at H
          have c6b0 : ((Int.tmod x6_1 2) == 1) = false := beq_eq_false_iff_ne.mpr c6
          have c6b1 : ((Int.tmod x6_1 2) != 1) = true := bne_iff_ne.mpr c6
          simp only [Option.some.injEq, Prod.mk.injEq] at H
          obtain ⟨rfl, rfl⟩ := H
          go_wp2
          repeat (go_quiet (fail); try go_wp2)
          go_ret2
          exact ⟨by first | rfl | (simp [errW_none, errW_some] <;> rfl) | (simp [*, errW_none, errW_some] <;> rfl), by repeat (first | (with_reducible first | exact HB.out | apply below_alloc | apply pw_below_drewN | apply below_drew1 | refine below_set ?_ GE223.out) | exact HB.out)⟩

/-! ### halberdref06_Of: function 102 -/
mutual
def halberdref06_Of.l0 : Nat → List Bool → List Bool → Int → Int → Int → Int → Option (Int × Int)
  | 0, _, _, _, _, _, _ => none
  | k + 1, x0, x1, x6, x7, x226000, x226001 => if x7 < 64 then (if 0 ≤ x7 then (if x7 < (x0.length : Int) then (if rdOf false x0 x7 = true then (if x7 < (x1.length : Int) then (halberdref06_Of.j1 k x0 x1 x6 x7 (rdOf false x1 x7) x226000 x226001) else (none)) else (halberdref06_Of.j1 k x0 x1 x6 x7 false x226000 x226001)) else (none)) else (none)) else (some (x226000, x226001))
def halberdref06_Of.j1 : Nat → List Bool → List Bool → Int → Int → Bool → Int → Int → Option (Int × Int)
  | 0, _, _, _, _, _, _, _ => none
  | k + 1, x0, x1, x6, x7, x22, x226000, x226001 => if x22 = true then (halberdref06_Of.l0 k x0 x1 (IntKind.u64.wrap (2 * x6)) (wrap64 (x7 + 1)) x226000 (IntKind.u64.wrap (x226001 + x6))) else (if 0 ≤ x7 then (if x7 < (x1.length : Int) then (if rdOf false x1 x7 = true then (halberdref06_Of.l0 k x0 x1 (IntKind.u64.wrap (2 * x6)) (wrap64 (x7 + 1)) (IntKind.u64.wrap (x226000 + x6)) x226001) else (halberdref06_Of.l0 k x0 x1 (IntKind.u64.wrap (2 * x6)) (wrap64 (x7 + 1)) x226000 x226001)) else (none)) else (none))
end
def halberdref06_Of.f (k : Nat) (l0 : List Bool) (l1 : List Bool) : Option (Int × Int) := halberdref06_Of.l0 k l0 l1 1 0 0 0
theorem halberdref06_Of.mono_l : ∀ k, (∀ y0 y1 y2 y3 y4 y5, LeO (halberdref06_Of.l0 k y0 y1 y2 y3 y4 y5) (halberdref06_Of.l0 (k + 1) y0 y1 y2 y3 y4 y5)) ∧ (∀ y0 y1 y2 y3 y4 y5 y6, LeO (halberdref06_Of.j1 k y0 y1 y2 y3 y4 y5 y6) (halberdref06_Of.j1 (k + 1) y0 y1 y2 y3 y4 y5 y6))
  | 0 => ⟨fun _ _ _ _ _ _ r h => by simp [halberdref06_Of.l0] at h, fun _ _ _ _ _ _ _ r h => by simp [halberdref06_Of.j1] at h⟩
  | k + 1 => by
    obtain ⟨ih0, ih1⟩ := halberdref06_Of.mono_l k
    refine ⟨?_, ?_⟩
    · intro y0 y1 y2 y3 y4 y5
      unfold halberdref06_Of.l0
      repeat' first
      | (with_reducible exact ih0 _ _ _ _ _ _)
      | (with_reducible exact ih1 _ _ _ _ _ _ _)
      | (with_reducible exact LeO.refl _)
      | (with_reducible exact LeO.none _)
      | (with_reducible refine LeO.ite ?_ ?_)
      | (with_reducible refine LeO.bind ?_ (fun _ => ?_))
      | exact ih0 _ _ _ _ _ _
      | exact ih1 _ _ _ _ _ _ _
      | exact LeO.none _
      | refine LeO.ite ?_ ?_
      | refine LeO.bind ?_ (fun _ => ?_)
    · intro y0 y1 y2 y3 y4 y5 y6
      unfold halberdref06_Of.j1
      repeat' first
      | (with_reducible exact ih0 _ _ _ _ _ _)
      | (with_reducible exact ih1 _ _ _ _ _ _ _)
      | (with_reducible exact LeO.refl _)
      | (with_reducible exact LeO.none _)
      | (with_reducible refine LeO.ite ?_ ?_)
      | (with_reducible refine LeO.bind ?_ (fun _ => ?_))
      | exact ih0 _ _ _ _ _ _
      | exact ih1 _ _ _ _ _ _ _
      | exact LeO.none _
      | refine LeO.ite ?_ ?_
      | refine LeO.bind ?_ (fun _ => ?_)
theorem halberdref06_Of.mono : ∀ a0 a1 k, LeO (halberdref06_Of.f k a0 a1) (halberdref06_Of.f (k + 1) a0 a1) := by
  intro a0 a1 k
  obtain ⟨ih0, ih1⟩ := halberdref06_Of.mono_l k
  unfold halberdref06_Of.f
  repeat' first
      | (with_reducible exact ih0 _ _ _ _ _ _)
      | (with_reducible exact ih1 _ _ _ _ _ _ _)
      | (with_reducible exact LeO.refl _)
      | (with_reducible exact LeO.none _)
      | (with_reducible refine LeO.ite ?_ ?_)
      | (with_reducible refine LeO.bind ?_ (fun _ => ?_))
      | exact ih0 _ _ _ _ _ _
      | exact ih1 _ _ _ _ _ _ _
      | exact LeO.none _
      | refine LeO.ite ?_ ?_
      | refine LeO.bind ?_ (fun _ => ?_)
set_option maxHeartbeats 8000000 in
set_option maxRecDepth 100000 in
theorem halberdref06_Of.calls (k : Nat) (A0 : Option Addr) (c0 : Nat) (l0 : List Bool) (A1 : Option Addr) (c1 : Nat) (l1 : List Bool) (r1 : Int) (r2 : Int) (w : World) (hr0 : Kd.C Kd.bool w A0 l0.length l0) (hc0 : l0.length ≤ c0) (hr1 : Kd.C Kd.bool w A1 l1.length l1) (hc1 : l1.length ≤ c1) (h : halberdref06_Of.f k l0 l1 = some (r1, r2)) :
    Calls Try.prog 102 #[.slice A0 l0.length c0, .slice A1 l1.length c1] w fun e w' => e = .returned (.agg #[.int .u64 r1, .int .u64 r2]) ∧ Below w.heap.size w w' := by
  have hu34 := Try.underlying34
  have HR0 := Aside0.mk hr0
  have HC0 := Aside0.mk hc0
  clear hr0 hc0
  have HR1 := Aside0.mk hr1
  have HC1 := Aside0.mk hc1
  clear hr1 hc1
  have HB := Aside0.mk (Below.refl w.heap.size w)
  have H : (halberdref06_Of.l0 k l0 l1 1 0 0 0) = some (r1, r2) := h
  clear h
  have H' := Aside0.mk H
  clear H
  go_enter Try.func102, Try.ntmps102
  go_wp2_with (first | ((with_reducible refine gate_dst (N := 4) rfl ?_); refine box_event ?hg (N := 4) ?hd (cs := #[.int .u64 0, .int .u64 0]) (t := 34) ?hr ?_; (case hd => rfl); (case hg => rfl); (case hr => first | (go_simp; done) | (go_simp; rfl)); intro gb224 hg w3 hbox hb; have n0_ := Aside0.mk (below_step (by repeat (first | (with_reducible first | exact HB.out | apply below_alloc | apply pw_below_drewN | apply below_drew1) | exact HB.out)) hb); have n1_ := Aside0.mk (hbox); have n2_ := Aside0.mk ((by rw [hg]; exact (below_size (by repeat (first | (with_reducible first | exact HB.out | apply below_alloc | apply pw_below_drewN | apply below_drew1) | exact HB.out))) : w.heap.size ≤ gb224)); have n3_ := Aside0.mk ((by rw [hg]; exact (below_size (by repeat (first | (with_reducible first | exact HB.out | apply below_alloc | apply pw_below_drewN | apply below_drew1) | exact HB.out))) : w.heap.size ≤ gb224)); clear HB; have HB := n0_; have BK224 := n1_; have GW224 := n2_; have GE224 := n3_; clear n0_ n1_ n2_ n3_; clear hb hbox hg) | ((with_reducible refine gate_dst (N := 5) rfl ?_); refine box_event ?hg (N := 5) ?hd (cs := #[.int .u64 0, .int .u64 0]) (t := 34) ?hr ?_; (case hd => rfl); (case hg => rfl); (case hr => first | (go_simp; done) | (go_simp; rfl)); intro gb225 hg w4 hbox hb; have n0_ := Aside0.mk (blk_below (g := gb224) (o := .cells #[.int .u64 0, .int .u64 0] 34 (0, 0)) (by (with_reducible repeat (first | refine blk_drewN ?_ _ | refine blk_drew ?_ | refine blk_alloc ?_ _)); exact BK224.out) hb); have n1_ := Aside0.mk (below_step (by repeat (first | (with_reducible first | exact HB.out | apply below_alloc | apply pw_below_drewN | apply below_drew1 | refine below_set ?_ GE224.out) | exact HB.out)) hb); have n2_ := Aside0.mk (hbox); have n3_ := Aside0.mk ((by rw [hg]; exact (below_size (by repeat (first | (with_reducible first | exact HB.out | apply below_alloc | apply pw_below_drewN | apply below_drew1 | refine below_set ?_ GE224.out) | exact HB.out))) : w.heap.size ≤ gb225)); have n4_ := Aside0.mk ((by rw [hg]; exact (below_size (by repeat (first | (with_reducible first | exact HB.out | apply below_alloc | apply pw_below_drewN | apply below_drew1 | refine below_set ?_ GE224.out) | exact HB.out))) : w.heap.size ≤ gb225)); have n5_ := Aside0.mk ((by rw [hg]; exact Nat.ne_of_lt (blk_lt (g := gb224) (o := .cells #[.int .u64 0, .int .u64 0] 34 (0, 0)) (by (with_reducible repeat (first | refine blk_drewN ?_ _ | refine blk_drew ?_ | refine blk_alloc ?_ _)); exact BK224.out)) : gb224 ≠ gb225)); have n6_ := Aside0.mk ((by rw [hg]; exact Nat.ne_of_gt (blk_lt (g := gb224) (o := .cells #[.int .u64 0, .int .u64 0] 34 (0, 0)) (by (with_reducible repeat (first | refine blk_drewN ?_ _ | refine blk_drew ?_ | refine blk_alloc ?_ _)); exact BK224.out)) : gb225 ≠ gb224)); clear BK224; clear HB; have BK224 := n0_; have HB := n1_; have BK225 := n2_; have GW225 := n3_; have GE225 := n4_; have NB224_225 := n5_; have NB225_224 := n6_; clear n0_ n1_ n2_ n3_ n4_ n5_ n6_; clear hb hbox hg; have hnb5 := NB225_224.out; have hnc5 := NB224_225.out; have hcz6_0 : w4.cell? ⟨gb225, 0, none⟩ = some (.int .u64 0) := (blk_cell BK225.out 0).trans rfl; have hcz6_1 : w4.cell? ⟨gb225, 1, none⟩ = some (.int .u64 0) := (blk_cell BK225.out 1).trans rfl; have hfz6_0 := blk_frozen BK225.out 0; have hfz6_1 := blk_frozen BK225.out 1))
  go_loopg [6, 7] k (fun kq v6 v7 w' => ∃ (x6_1 : Int) (x7_1 : Int) (x226000_1 : Int) (x226001_1 : Int), v6 = .int .u64 x6_1 ∧ v7 = .int .i64 x7_1 ∧ Aside0 (halberdref06_Of.l0 kq l0 l1 x6_1 x7_1 x226000_1 x226001_1 = some (r1, r2)) ∧ Aside0 (kq ≤ k) ∧ Aside0 (w'.heap[gb224]? = some (.cells #[.int .u64 0, .int .u64 0] 34 (0, 0))) ∧ Aside0 (w'.heap[gb225]? = some (.cells #[.int .u64 x226000_1, .int .u64 x226001_1] 34 (0, 0))) ∧ Aside0 (Below w.heap.size w w'))
  case atStart => exact ⟨(1), (0), (0), (0), (by first | rfl | (simp; done) | (simp [*]; done)), (by first | rfl | (simp; done) | (simp [*]; done)), H', ⟨Nat.le_refl _⟩, ⟨by (with_reducible repeat (first | refine blk_drewN ?_ _ | refine blk_drew ?_ | refine blk_alloc ?_ _)); refine blk_far ?_ NB224_225.out _; refine blk_far ?_ NB224_225.out _; (with_reducible repeat (first | refine blk_drewN ?_ _ | refine blk_drew ?_ | refine blk_alloc ?_ _)); exact BK224.out⟩, ⟨by (with_reducible repeat (first | refine blk_drewN ?_ _ | refine blk_drew ?_ | refine blk_alloc ?_ _)); refine blk_put (cs := #[.int .u64 0, .int .u64 0]) ?_ 1 _ rfl; refine blk_put (cs := #[.int .u64 0, .int .u64 0]) ?_ 0 _ rfl; (with_reducible repeat (first | refine blk_drewN ?_ _ | refine blk_drew ?_ | refine blk_alloc ?_ _)); exact BK225.out⟩, ⟨by repeat (first | (with_reducible first | exact HB.out | apply below_alloc | apply pw_below_drewN | apply below_drew1 | refine below_set ?_ GE224.out | refine below_set ?_ GE225.out) | exact HB.out)⟩⟩
  case round =>
    clear H'
    try clear c1
    try clear p2
    try clear c5
    try clear hcz6_0
    try clear hcz6_1
    try clear hfz6_0
    try clear hfz6_1
    obtain ⟨x6_1, x7_1, x226000_1, x226001_1, rfl, rfl, HA, HK1, BK224, BK225, HB⟩ := hrel
    cases gk with
    | zero => exact absurd HA.out (by simp [halberdref06_Of.l0])
    | succ k1 =>
      have H := HA.out
      clear HA
      simp only [halberdref06_Of.l0] at H
      by_cases c7 : x7_1 < 64
      · rw [if_pos c7] at H
        have c7b0 : decide (x7_1 < 64) = true := decide_eq_true c7
        clear c7
        have HC8 := Aside0.mk H
        clear H
        go_upto_region 6 with (fail)
        go_cut [22] (fun v22 wc => ∃ (kq : Nat) (x22_7 : Bool), v22 = .bool x22_7 ∧ Aside0 (halberdref06_Of.j1 kq l0 l1 x6_1 x7_1 x22_7 x226000_1 x226001_1 = some (r1, r2)) ∧ Aside0 (kq ≤ k1) ∧ Aside0 (wc.heap[gb224]? = some (.cells #[.int .u64 0, .int .u64 0] 34 (0, 0))) ∧ Aside0 (wc.heap[gb225]? = some (.cells #[.int .u64 x226000_1, .int .u64 x226001_1] 34 (0, 0))) ∧ Aside0 (Below w.heap.size w wc))
        case first =>
          have H := HC8.out
          clear HC8
          by_cases c9 : 0 ≤ x7_1
          · rw [if_pos c9] at H
            have c9b0 : decide (0 ≤ x7_1) = true := decide_eq_true c9
            clear c9
            (first | rw [c9b0] | (simp only [i64_w, i32_w]; rw [c9b0]) | skip)
            by_cases c10 : x7_1 < (l0.length : Int)
            · rw [if_pos c10] at H
              have c10b0 : decide (x7_1 < (l0.length : Int)) = true := decide_eq_true c10
              clear c10
              obtain ⟨bq11, hbq11⟩ : ∃ b_ : Bool, b_ = (rdOf false l0 x7_1) := ⟨_, rfl⟩
              replace H : (if bq11 = true then (if x7_1 < (l1.length : Int) then (halberdref06_Of.j1 k1 l0 l1 x6_1 x7_1 (rdOf false l1 x7_1) x226000_1 x226001_1) else (none)) else (halberdref06_Of.j1 k1 l0 l1 x6_1 x7_1 false x226000_1 x226001_1)) = some (r1, r2) := by rw [← hbq11] at H; exact H
              have Nbq11 := Aside0.mk hbq11
              clear hbq11
              by_cases c12 : bq11 = true
              · subst c12
                have H1 : (if x7_1 < (l1.length : Int) then (halberdref06_Of.j1 k1 l0 l1 x6_1 x7_1 (rdOf false l1 x7_1) x226000_1 x226001_1) else (none)) = some (r1, r2) := by rw [if_pos rfl] at H; exact H
                clear H
                have H := H1
                clear H1
                by_cases c13 : x7_1 < (l1.length : Int)
                · rw [if_pos c13] at H
                  have c13b0 : decide (x7_1 < (l1.length : Int)) = true := decide_eq_true c13
                  clear c13
                  have H' := Aside0.mk H
                  clear H
                  have p226 : 0 ≤ (x7_1 : Int) := of_decide_eq_true (by first | (with_reducible assumption) | assumption)
                  have q226 : x7_1 < (l0.length : Int) := of_decide_eq_true (by first | (with_reducible assumption) | assumption)
                  obtain ⟨ad226, e226, hx226_0⟩ := Kd.at_bool HR0.out x7_1 p226 q226
                  (try rw [← Nbq11.out] at hx226_0)
                  cases e226
                  replace hx226_0 := (HB.out.cell (World.block_lt_of_cell? w _ hx226_0)).trans hx226_0
                  replace p226 := eq_true p226
                  replace q226 := eq_true q226
                  have p227 : 0 ≤ (x7_1 : Int) := of_decide_eq_true (by first | (with_reducible assumption) | assumption)
                  have q227 : x7_1 < (l1.length : Int) := of_decide_eq_true (by first | (with_reducible assumption) | assumption)
                  obtain ⟨ad227, e227, hx227_0⟩ := Kd.at_bool HR1.out x7_1 p227 q227
                  (try rw [← Nbq11.out] at hx227_0)
                  cases e227
                  replace hx227_0 := (HB.out.cell (World.block_lt_of_cell? w _ hx227_0)).trans hx227_0
                  replace p227 := eq_true p227
                  replace q227 := eq_true q227
                  go_wp2
                  go_meet
                  case rel => exact ⟨_, (rdOf false l1 x7_1), (by first | rfl | (simp; done) | (simp [*]; done)), H', ⟨by have := HK1.out; first | omega | exact Nat.le_refl _⟩, ⟨by (with_reducible repeat (first | refine blk_drewN ?_ _ | refine blk_drew ?_ | refine blk_alloc ?_ _)); exact BK224.out⟩, ⟨by (with_reducible repeat (first | refine blk_drewN ?_ _ | refine blk_drew ?_ | refine blk_alloc ?_ _)); exact BK225.out⟩, ⟨by repeat (first | (with_reducible first | exact HB.out | apply below_alloc | apply pw_below_drewN | apply below_drew1 | refine below_set ?_ GE224.out | refine below_set ?_ GE225.out) | exact HB.out)⟩⟩
                · rw [if_neg c13] at H
                  exact absurd H (by simp)
              · replace c12 := Bool.eq_false_iff.mpr c12
                subst c12
                have H1 : (halberdref06_Of.j1 k1 l0 l1 x6_1 x7_1 false x226000_1 x226001_1) = some (r1, r2) := by rw [if_neg (show ¬ (false = true) by decide)] at H; exact H
                clear H
                have H := H1
                clear H1
                have H' := Aside0.mk H
                clear H
                have p226 : 0 ≤ (x7_1 : Int) := of_decide_eq_true (by first | (with_reducible assumption) | assumption)
                have q226 : x7_1 < (l0.length : Int) := of_decide_eq_true (by first | (with_reducible assumption) | assumption)
                obtain ⟨ad226, e226, hx226_0⟩ := Kd.at_bool HR0.out x7_1 p226 q226
                (try rw [← Nbq11.out] at hx226_0)
                cases e226
                replace hx226_0 := (HB.out.cell (World.block_lt_of_cell? w _ hx226_0)).trans hx226_0
                replace p226 := eq_true p226
                replace q226 := eq_true q226
                go_wp2
                go_meet
                case rel => exact ⟨_, (false), (by first | rfl | (simp; done) | (simp [*]; done)), H', ⟨by have := HK1.out; first | omega | exact Nat.le_refl _⟩, ⟨by (with_reducible repeat (first | refine blk_drewN ?_ _ | refine blk_drew ?_ | refine blk_alloc ?_ _)); exact BK224.out⟩, ⟨by (with_reducible repeat (first | refine blk_drewN ?_ _ | refine blk_drew ?_ | refine blk_alloc ?_ _)); exact BK225.out⟩, ⟨by repeat (first | (with_reducible first | exact HB.out | apply below_alloc | apply pw_below_drewN | apply below_drew1 | refine below_set ?_ GE224.out | refine below_set ?_ GE225.out) | exact HB.out)⟩⟩
            · rw [if_neg c10] at H
              exact absurd H (by simp)
          · rw [if_neg c9] at H
            exact absurd H (by simp)
        case rest =>
          clear HC8
          try clear c1
          try clear q1
          try clear p2
          try clear q2
          try clear hx2
          try clear c5
          try clear c7
          try clear c7b0
          try clear c9
          try clear c9b0
          try clear c10
          try clear c10b0
          try clear q11
          try clear c12
          try clear c13
          try clear c13b0
          try clear hcz6_0
          try clear hcz6_1
          try clear hfz6_0
          try clear hfz6_1
          try clear hx226_0
          try clear hx227_0
          try clear p2
          try clear p226
          try clear p227
          try clear q226
          try clear q227
          obtain ⟨kq, x22_7, rfl, HA, HJ7, BK224, BK225, HB⟩ := hcut
          cases kq with
          | zero => exact absurd HA.out (by simp [halberdref06_Of.j1])
          | succ kj7 =>
            have H := HA.out
            clear HA
            simp only [halberdref06_Of.j1] at H
            by_cases c14 : x22_7 = true
            · subst c14
              have H1 : (halberdref06_Of.l0 kj7 l0 l1 (IntKind.u64.wrap (2 * x6_1)) (wrap64 (x7_1 + 1)) x226000_1 (IntKind.u64.wrap (x226001_1 + x6_1))) = some (r1, r2) := by rw [if_pos rfl] at H; exact H
              clear H
              have H := H1
              clear H1
              have H' := Aside0.mk H
              clear H
              have hnb15 := NB225_224.out
              have hnc15 := NB224_225.out
              have hcz16_0 : wc.cell? ⟨gb225, 0, none⟩ = some (.int .u64 x226000_1) := (blk_cell BK225.out 0).trans rfl
              have hcz16_1 : wc.cell? ⟨gb225, 1, none⟩ = some (.int .u64 x226001_1) := (blk_cell BK225.out 1).trans rfl
              have hfz16_0 := blk_frozen BK225.out 0
              have hfz16_1 := blk_frozen BK225.out 1
              go_wp2
              go_roundg kj7
              case measure => have := HK1.out; have := HJ7.out; omega
              case rel => exact ⟨(IntKind.u64.wrap (2 * x6_1)), (wrap64 (x7_1 + 1)), (x226000_1), (IntKind.u64.wrap (x226001_1 + x6_1)), (by first | rfl | (simp; done) | (simp [*]; done)), (by first | rfl | (simp; done) | (simp [*]; done)), H', ⟨by have := HK1.out; have := HJ7.out; omega⟩, ⟨by (with_reducible repeat (first | refine blk_drewN ?_ _ | refine blk_drew ?_ | refine blk_alloc ?_ _)); refine blk_far ?_ NB224_225.out _; (with_reducible repeat (first | refine blk_drewN ?_ _ | refine blk_drew ?_ | refine blk_alloc ?_ _)); exact BK224.out⟩, ⟨by (with_reducible repeat (first | refine blk_drewN ?_ _ | refine blk_drew ?_ | refine blk_alloc ?_ _)); refine blk_put (cs := #[.int .u64 x226000_1, .int .u64 x226001_1]) ?_ 1 _ rfl; (with_reducible repeat (first | refine blk_drewN ?_ _ | refine blk_drew ?_ | refine blk_alloc ?_ _)); exact BK225.out⟩, ⟨by repeat (first | (with_reducible first | exact HB.out | apply below_alloc | apply pw_below_drewN | apply below_drew1 | refine below_set ?_ GE224.out | refine below_set ?_ GE225.out) | exact HB.out)⟩⟩
            · replace c14 := Bool.eq_false_iff.mpr c14
              subst c14
              have H1 : (if 0 ≤ x7_1 then (if x7_1 < (l1.length : Int) then (if rdOf false l1 x7_1 = true then (halberdref06_Of.l0 kj7 l0 l1 (IntKind.u64.wrap (2 * x6_1)) (wrap64 (x7_1 + 1)) (IntKind.u64.wrap (x226000_1 + x6_1)) x226001_1) else (halberdref06_Of.l0 kj7 l0 l1 (IntKind.u64.wrap (2 * x6_1)) (wrap64 (x7_1 + 1)) x226000_1 x226001_1)) else (none)) else (none)) = some (r1, r2) := by rw [if_neg (show ¬ (false = true) by decide)] at H; exact H
              clear H
              have H := H1
              clear H1
              by_cases c17 : 0 ≤ x7_1
              · rw [if_pos c17] at H
                have c17b0 : decide (0 ≤ x7_1) = true := decide_eq_true c17
                clear c17
                by_cases c18 : x7_1 < (l1.length : Int)
                · rw [if_pos c18] at H
                  have c18b0 : decide (x7_1 < (l1.length : Int)) = true := decide_eq_true c18
                  clear c18
                  obtain ⟨bq19, hbq19⟩ : ∃ b_ : Bool, b_ = (rdOf false l1 x7_1) := ⟨_, rfl⟩
                  replace H : (if bq19 = true then (halberdref06_Of.l0 kj7 l0 l1 (IntKind.u64.wrap (2 * x6_1)) (wrap64 (x7_1 + 1)) (IntKind.u64.wrap (x226000_1 + x6_1)) x226001_1) else (halberdref06_Of.l0 kj7 l0 l1 (IntKind.u64.wrap (2 * x6_1)) (wrap64 (x7_1 + 1)) x226000_1 x226001_1)) = some (r1, r2) := by rw [← hbq19] at H; exact H
                  have Nbq19 := Aside0.mk hbq19
                  clear hbq19
                  by_cases c20 : bq19 = true
                  · subst c20
                    have H1 : (halberdref06_Of.l0 kj7 l0 l1 (IntKind.u64.wrap (2 * x6_1)) (wrap64 (x7_1 + 1)) (IntKind.u64.wrap (x226000_1 + x6_1)) x226001_1) = some (r1, r2) := by rw [if_pos rfl] at H; exact H
                    clear H
                    have H := H1
                    clear H1
                    have H' := Aside0.mk H
                    clear H
                    have p228 : 0 ≤ (x7_1 : Int) := of_decide_eq_true (by first | (with_reducible assumption) | assumption)
                    have q228 : x7_1 < (l1.length : Int) := of_decide_eq_true (by first | (with_reducible assumption) | assumption)
                    obtain ⟨ad228, e228, hx228_0⟩ := Kd.at_bool HR1.out x7_1 p228 q228
                    (try rw [← Nbq19.out] at hx228_0)
                    cases e228
                    replace hx228_0 := (HB.out.cell (World.block_lt_of_cell? w _ hx228_0)).trans hx228_0
                    replace p228 := eq_true p228
                    replace q228 := eq_true q228
                    have hnb21 := NB225_224.out
                    have hnc21 := NB224_225.out
                    have hcz22_0 : wc.cell? ⟨gb225, 0, none⟩ = some (.int .u64 x226000_1) := (blk_cell BK225.out 0).trans rfl
                    have hcz22_1 : wc.cell? ⟨gb225, 1, none⟩ = some (.int .u64 x226001_1) := (blk_cell BK225.out 1).trans rfl
                    have hfz22_0 := blk_frozen BK225.out 0
                    have hfz22_1 := blk_frozen BK225.out 1
                    go_wp2
                    go_roundg kj7
                    case measure => have := HK1.out; have := HJ7.out; omega
                    case rel => exact ⟨(IntKind.u64.wrap (2 * x6_1)), (wrap64 (x7_1 + 1)), (IntKind.u64.wrap (x226000_1 + x6_1)), (x226001_1), (by first | rfl | (simp; done) | (simp [*]; done)), (by first | rfl | (simp; done) | (simp [*]; done)), H', ⟨by have := HK1.out; have := HJ7.out; omega⟩, ⟨by (with_reducible repeat (first | refine blk_drewN ?_ _ | refine blk_drew ?_ | refine blk_alloc ?_ _)); refine blk_far ?_ NB224_225.out _; (with_reducible repeat (first | refine blk_drewN ?_ _ | refine blk_drew ?_ | refine blk_alloc ?_ _)); exact BK224.out⟩, ⟨by (with_reducible repeat (first | refine blk_drewN ?_ _ | refine blk_drew ?_ | refine blk_alloc ?_ _)); refine blk_put (cs := #[.int .u64 x226000_1, .int .u64 x226001_1]) ?_ 0 _ rfl; (with_reducible repeat (first | refine blk_drewN ?_ _ | refine blk_drew ?_ | refine blk_alloc ?_ _)); exact BK225.out⟩, ⟨by repeat (first | (with_reducible first | exact HB.out | apply below_alloc | apply pw_below_drewN | apply below_drew1 | refine below_set ?_ GE224.out | refine below_set ?_ GE225.out) | exact HB.out)⟩⟩
                  · replace c20 := Bool.eq_false_iff.mpr c20
                    subst c20
                    have H1 : (halberdref06_Of.l0 kj7 l0 l1 (IntKind.u64.wrap (2 * x6_1)) (wrap64 (x7_1 + 1)) x226000_1 x226001_1) = some (r1, r2) := by rw [if_neg (show ¬ (false = true) by decide)] at H; exact H
                    clear H
                    have H := H1
                    clear H1
                    have H' := Aside0.mk H
                    clear H
                    have p228 : 0 ≤ (x7_1 : Int) := of_decide_eq_true (by first | (with_reducible assumption) | assumption)
                    have q228 : x7_1 < (l1.length : Int) := of_decide_eq_true (by first | (with_reducible assumption) | assumption)
                    obtain ⟨ad228, e228, hx228_0⟩ := Kd.at_bool HR1.out x7_1 p228 q228
                    (try rw [← Nbq19.out] at hx228_0)
                    cases e228
                    replace hx228_0 := (HB.out.cell (World.block_lt_of_cell? w _ hx228_0)).trans hx228_0
                    replace p228 := eq_true p228
                    replace q228 := eq_true q228
                    go_wp2
                    go_roundg kj7
                    case measure => have := HK1.out; have := HJ7.out; omega
                    case rel => exact ⟨(IntKind.u64.wrap (2 * x6_1)), (wrap64 (x7_1 + 1)), (x226000_1), (x226001_1), (by first | rfl | (simp; done) | (simp [*]; done)), (by first | rfl | (simp; done) | (simp [*]; done)), H', ⟨by have := HK1.out; have := HJ7.out; omega⟩, ⟨by (with_reducible repeat (first | refine blk_drewN ?_ _ | refine blk_drew ?_ | refine blk_alloc ?_ _)); exact BK224.out⟩, ⟨by (with_reducible repeat (first | refine blk_drewN ?_ _ | refine blk_drew ?_ | refine blk_alloc ?_ _)); exact BK225.out⟩, ⟨by repeat (first | (with_reducible first | exact HB.out | apply below_alloc | apply pw_below_drewN | apply below_drew1 | refine below_set ?_ GE224.out | refine below_set ?_ GE225.out) | exact HB.out)⟩⟩
                · rw [if_neg c18] at H
                  exact absurd H (by simp)
              · rw [if_neg c17] at H
                exact absurd H (by simp)
      · rw [if_neg c7] at H
        have c7b0 : decide (x7_1 < 64) = false := decide_eq_false c7
        clear c7
        simp only [Option.some.injEq, Prod.mk.injEq] at H
        obtain ⟨rfl, rfl⟩ := H
        have hnb23 := NB225_224.out
        have hnc23 := NB224_225.out
        have hcz24_0 : wr.cell? ⟨gb225, 0, none⟩ = some (.int .u64 x226000_1) := (blk_cell BK225.out 0).trans rfl
        have hcz24_1 : wr.cell? ⟨gb225, 1, none⟩ = some (.int .u64 x226001_1) := (blk_cell BK225.out 1).trans rfl
        have hfz24_0 := blk_frozen BK225.out 0
        have hfz24_1 := blk_frozen BK225.out 1
        have hcz25_0 : wr.cell? ⟨gb224, 0, none⟩ = some (.int .u64 0) := (blk_cell BK224.out 0).trans rfl
        have hcz25_1 : wr.cell? ⟨gb224, 1, none⟩ = some (.int .u64 0) := (blk_cell BK224.out 1).trans rfl
        have hfz25_0 := blk_frozen BK224.out 0
        have hfz25_1 := blk_frozen BK224.out 1
        go_wp2
        refine bodyPost_ret (results_cell_row rfl _ _ gb224 34 #[.int .u64 x226000_1, .int .u64 x226001_1] (0, 0) _ rfl (by (with_reducible repeat (first | refine blk_drewN ?_ _ | refine blk_drew ?_ | refine blk_alloc ?_ _)); refine blk_put (cs := #[.int .u64 x226000_1, .int .u64 0]) ?_ 1 _ rfl; refine blk_put (cs := #[.int .u64 0, .int .u64 0]) ?_ 0 _ rfl; (with_reducible repeat (first | refine blk_drewN ?_ _ | refine blk_drew ?_ | refine blk_alloc ?_ _)); exact BK224.out) Try.underlying34 rfl (by kernel_rfl)) rfl ?_
        exact ⟨by first | rfl | (simp [errW_none, errW_some] <;> rfl) | (simp [*, errW_none, errW_some] <;> rfl), by repeat (first | (with_reducible first | exact HB.out | apply below_alloc | apply pw_below_drewN | apply below_drew1 | refine below_set ?_ GE224.out | refine below_set ?_ GE225.out) | exact HB.out)⟩

end Go.Proofs.Ytdojdjafleaedaa.PNumBounds
