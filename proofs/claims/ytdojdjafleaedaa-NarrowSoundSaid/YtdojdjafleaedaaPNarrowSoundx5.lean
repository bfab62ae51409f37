/- Functions of the program that some laws reach, as Lean functions, and proofs that the program's calls come to what they say: written by a program, for the texts that import it; each theorem bears its own conditions. -/
import Derived.Test.YtdojdjafleaedaaPNarrowSoundx0
namespace Go.Proofs.Ytdojdjafleaedaa.PNarrowSound
open Go.RowKit Go.Proofs.YtdojdjafleaedaaW.PrintWords Go.Proofs.YtdojdjafleaedaaW.PrintLast Go.Proofs.YtdojdjafleaedaaW.PrintMore
attribute [local go_sem] max2_int min2_int max_two min_two max_three min_three max_four min_four   -- for this text's walks alone
set_option linter.unusedVariables false
set_option linter.unusedSimpArgs false

/-! ### narrow_without: function 103 -/
mutual
def narrow_without.j0 : Nat → Int → Int → Bool → Int → Int → Int → Int → Int → Int → Option (Int × Int × Int × Int × Int × Int × Bool)
 | 0, _, _, _, _, _, _, _, _, _ => none
 | k + 1, x1, x6, x19, x148000, x148001, x148002, x148003, x148004, x148005 => if x19 = true then (some (x148000, x148001, x148002, x148003, x148004, x148005, false)) else (if x148002 = x1 then (narrow_without.j1 k x1 x6 (decide (x1 < 18446744073709551615)) x148000 x148001 x148002 x148003 x148004 x148005 x148000 x148001 x148002 x148003 x148004 x148005) else (narrow_without.j1 k x1 x6 false x148000 x148001 x148002 x148003 x148004 x148005 x148000 x148001 x148002 x148003 x148004 x148005))
def narrow_without.j1 : Nat → Int → Int → Bool → Int → Int → Int → Int → Int → Int → Int → Int → Int → Int → Int → Int → Option (Int × Int × Int × Int × Int × Int × Bool)
 | 0, _, _, _, _, _, _, _, _, _, _, _, _, _, _, _ => none
 | k + 1, x1, x6, x29, x148000, x148001, x148002, x148003, x148004, x148005, x150000, x150001, x150002, x150003, x150004, x150005 => if x29 = true then (narrow_without.j2 k x1 x6 x148000 x148001 x148002 x148003 x148004 x148005 x150000 x150001 (IntKind.u64.wrap (x150002 + 1)) x150003 x150004 x150005) else (narrow_without.j2 k x1 x6 x148000 x148001 x148002 x148003 x148004 x148005 x150000 x150001 x150002 x150003 x150004 x150005)
def narrow_without.j2 : Nat → Int → Int → Int → Int → Int → Int → Int → Int → Int → Int → Int → Int → Int → Int → Option (Int × Int × Int × Int × Int × Int × Bool)
 | 0, _, _, _, _, _, _, _, _, _, _, _, _, _, _ => none
 | k + 1, x1, x6, x148000, x148001, x148002, x148003, x148004, x148005, x150000, x150001, x150002, x150003, x150004, x150005 => if x148003 = x1 then (narrow_without.j3 k x6 (decide (x1 > 0)) x148000 x148001 x148002 x148003 x148004 x148005 x150000 x150001 x150002 x150003 x150004 x150005) else (narrow_without.j3 k x6 false x148000 x148001 x148002 x148003 x148004 x148005 x150000 x150001 x150002 x150003 x150004 x150005)
def narrow_without.j3 : Nat → Int → Bool → Int → Int → Int → Int → Int → Int → Int → Int → Int → Int → Int → Int → Option (Int × Int × Int × Int × Int × Int × Bool)
 | 0, _, _, _, _, _, _, _, _, _, _, _, _, _, _ => none
 | k + 1, x6, x41, x148000, x148001, x148002, x148003, x148004, x148005, x150000, x150001, x150002, x150003, x150004, x150005 => if x41 = true then (narrow_without.j4 k x6 x148000 x148001 x148002 x148003 x148004 x148005 x150000 x150001 x150002 (IntKind.u64.wrap (x150003 - 1)) x150004 x150005) else (narrow_without.j4 k x6 x148000 x148001 x148002 x148003 x148004 x148005 x150000 x150001 x150002 x150003 x150004 x150005)
def narrow_without.j4 : Nat → Int → Int → Int → Int → Int → Int → Int → Int → Int → Int → Int → Int → Int → Option (Int × Int × Int × Int × Int × Int × Bool)
 | 0, _, _, _, _, _, _, _, _, _, _, _, _, _ => none
 | k + 1, x6, x148000, x148001, x148002, x148003, x148004, x148005, x150000, x150001, x150002, x150003, x150004, x150005 => if x148004 = x6 then (narrow_without.j5 k x6 (decide (x6 < 9223372036854775807)) x148000 x148001 x148002 x148003 x148004 x148005 x150000 x150001 x150002 x150003 x150004 x150005) else (narrow_without.j5 k x6 false x148000 x148001 x148002 x148003 x148004 x148005 x150000 x150001 x150002 x150003 x150004 x150005)
def narrow_without.j5 : Nat → Int → Bool → Int → Int → Int → Int → Int → Int → Int → Int → Int → Int → Int → Int → Option (Int × Int × Int × Int × Int × Int × Bool)
 | 0, _, _, _, _, _, _, _, _, _, _, _, _, _, _ => none
 | k + 1, x6, x53, x148000, x148001, x148002, x148003, x148004, x148005, x150000, x150001, x150002, x150003, x150004, x150005 => if x53 = true then (if x148005 = x6 then (if x6 > (-9223372036854775808) then (some (x150000, x150001, x150002, x150003, wrap64 (x150004 + 1), wrap64 (x150005 - 1), true)) else (some (x150000, x150001, x150002, x150003, wrap64 (x150004 + 1), x150005, true))) else (some (x150000, x150001, x150002, x150003, wrap64 (x150004 + 1), x150005, true))) else (if x148005 = x6 then (if x6 > (-9223372036854775808) then (some (x150000, x150001, x150002, x150003, x150004, wrap64 (x150005 - 1), true)) else (some (x150000, x150001, x150002, x150003, x150004, x150005, true))) else (some (x150000, x150001, x150002, x150003, x150004, x150005, true)))
end
def narrow_without.f (k : Nat) (a0_0 : Int) (a0_1 : Int) (a0_2 : Int) (a0_3 : Int) (a0_4 : Int) (a0_5 : Int) (a1 : Int) : Option (Int × Int × Int × Int × Int × Int × Bool) := if a0_2 = a1 then (narrow_without.j0 k a1 (wrap64 (a1)) (a0_3 == a1) a0_0 a0_1 a0_2 a0_3 a0_4 a0_5) else (narrow_without.j0 k a1 (wrap64 (a1)) false a0_0 a0_1 a0_2 a0_3 a0_4 a0_5)
theorem narrow_without.mono_l : ∀ k, (∀ y0 y1 y2 y3 y4 y5 y6 y7 y8, LeO (narrow_without.j0 k y0 y1 y2 y3 y4 y5 y6 y7 y8) (narrow_without.j0 (k + 1) y0 y1 y2 y3 y4 y5 y6 y7 y8)) ∧ (∀ y0 y1 y2 y3 y4 y5 y6 y7 y8 y9 y10 y11 y12 y13 y14, LeO (narrow_without.j1 k y0 y1 y2 y3 y4 y5 y6 y7 y8 y9 y10 y11 y12 y13 y14) (narrow_without.j1 (k + 1) y0 y1 y2 y3 y4 y5 y6 y7 y8 y9 y10 y11 y12 y13 y14)) ∧ (∀ y0 y1 y2 y3 y4 y5 y6 y7 y8 y9 y10 y11 y12 y13, LeO (narrow_without.j2 k y0 y1 y2 y3 y4 y5 y6 y7 y8 y9 y10 y11 y12 y13) (narrow_without.j2 (k + 1) y0 y1 y2 y3 y4 y5 y6 y7 y8 y9 y10 y11 y12 y13)) ∧ (∀ y0 y1 y2 y3 y4 y5 y6 y7 y8 y9 y10 y11 y12 y13, LeO (narrow_without.j3 k y0 y1 y2 y3 y4 y5 y6 y7 y8 y9 y10 y11 y12 y13) (narrow_without.j3 (k + 1) y0 y1 y2 y3 y4 y5 y6 y7 y8 y9 y10 y11 y12 y13)) ∧ (∀ y0 y1 y2 y3 y4 y5 y6 y7 y8 y9 y10 y11 y12, LeO (narrow_without.j4 k y0 y1 y2 y3 y4 y5 y6 y7 y8 y9 y10 y11 y12) (narrow_without.j4 (k + 1) y0 y1 y2 y3 y4 y5 y6 y7 y8 y9 y10 y11 y12)) ∧ (∀ y0 y1 y2 y3 y4 y5 y6 y7 y8 y9 y10 y11 y12 y13, LeO (narrow_without.j5 k y0 y1 y2 y3 y4 y5 y6 y7 y8 y9 y10 y11 y12 y13) (narrow_without.j5 (k + 1) y0 y1 y2 y3 y4 y5 y6 y7 y8 y9 y10 y11 y12 y13))
 | 0 => ⟨fun _ _ _ _ _ _ _ _ _ r h => by simp [narrow_without.j0] at h, fun _ _ _ _ _ _ _ _ _ _ _ _ _ _ _ r h => by simp [narrow_without.j1] at h, fun _ _ _ _ _ _ _ _ _ _ _ _ _ _ r h => by simp [narrow_without.j2] at h, fun _ _ _ _ _ _ _ _ _ _ _ _ _ _ r h => by simp [narrow_without.j3] at h, fun _ _ _ _ _ _ _ _ _ _ _ _ _ r h => by simp [narrow_without.j4] at h, fun _ _ _ _ _ _ _ _ _ _ _ _ _ _ r h => by simp [narrow_without.j5] at h⟩
 | k + 1 => by
  obtain ⟨ih0, ih1, ih2, ih3, ih4, ih5⟩ := narrow_without.mono_l k
  refine ⟨?_, ?_, ?_, ?_, ?_, ?_⟩
  ·intro y0 y1 y2 y3 y4 y5 y6 y7 y8
   unfold narrow_without.j0
   repeat' first
   | (with_reducible exact ih0 _ _ _ _ _ _ _ _ _)
   | (with_reducible exact ih1 _ _ _ _ _ _ _ _ _ _ _ _ _ _ _)
   | (with_reducible exact ih2 _ _ _ _ _ _ _ _ _ _ _ _ _ _)
   | (with_reducible exact ih3 _ _ _ _ _ _ _ _ _ _ _ _ _ _)
   | (with_reducible exact ih4 _ _ _ _ _ _ _ _ _ _ _ _ _)
   | (with_reducible exact ih5 _ _ _ _ _ _ _ _ _ _ _ _ _ _)
   | (with_reducible exact LeO.refl _)
   | (with_reducible exact LeO.none _)
   | (with_reducible refine LeO.ite ?_ ?_)
   | (with_reducible refine LeO.bind ?_ (fun _ => ?_))
   | exact ih0 _ _ _ _ _ _ _ _ _
   | exact ih1 _ _ _ _ _ _ _ _ _ _ _ _ _ _ _
   | exact ih2 _ _ _ _ _ _ _ _ _ _ _ _ _ _
   | exact ih3 _ _ _ _ _ _ _ _ _ _ _ _ _ _
   | exact ih4 _ _ _ _ _ _ _ _ _ _ _ _ _
   | exact ih5 _ _ _ _ _ _ _ _ _ _ _ _ _ _
   | exact LeO.none _
   | refine LeO.ite ?_ ?_
   | refine LeO.bind ?_ (fun _ => ?_)
  ·intro y0 y1 y2 y3 y4 y5 y6 y7 y8 y9 y10 y11 y12 y13 y14
   unfold narrow_without.j1
   repeat' first
   | (with_reducible exact ih0 _ _ _ _ _ _ _ _ _)
   | (with_reducible exact ih1 _ _ _ _ _ _ _ _ _ _ _ _ _ _ _)
   | (with_reducible exact ih2 _ _ _ _ _ _ _ _ _ _ _ _ _ _)
   | (with_reducible exact ih3 _ _ _ _ _ _ _ _ _ _ _ _ _ _)
   | (with_reducible exact ih4 _ _ _ _ _ _ _ _ _ _ _ _ _)
   | (with_reducible exact ih5 _ _ _ _ _ _ _ _ _ _ _ _ _ _)
   | (with_reducible exact LeO.refl _)
   | (with_reducible exact LeO.none _)
   | (with_reducible refine LeO.ite ?_ ?_)
   | (with_reducible refine LeO.bind ?_ (fun _ => ?_))
   | exact ih0 _ _ _ _ _ _ _ _ _
   | exact ih1 _ _ _ _ _ _ _ _ _ _ _ _ _ _ _
   | exact ih2 _ _ _ _ _ _ _ _ _ _ _ _ _ _
   | exact ih3 _ _ _ _ _ _ _ _ _ _ _ _ _ _
   | exact ih4 _ _ _ _ _ _ _ _ _ _ _ _ _
   | exact ih5 _ _ _ _ _ _ _ _ _ _ _ _ _ _
   | exact LeO.none _
   | refine LeO.ite ?_ ?_
   | refine LeO.bind ?_ (fun _ => ?_)
  ·intro y0 y1 y2 y3 y4 y5 y6 y7 y8 y9 y10 y11 y12 y13
   unfold narrow_without.j2
   repeat' first
   | (with_reducible exact ih0 _ _ _ _ _ _ _ _ _)
   | (with_reducible exact ih1 _ _ _ _ _ _ _ _ _ _ _ _ _ _ _)
   | (with_reducible exact ih2 _ _ _ _ _ _ _ _ _ _ _ _ _ _)
   | (with_reducible exact ih3 _ _ _ _ _ _ _ _ _ _ _ _ _ _)
   | (with_reducible exact ih4 _ _ _ _ _ _ _ _ _ _ _ _ _)
   | (with_reducible exact ih5 _ _ _ _ _ _ _ _ _ _ _ _ _ _)
   | (with_reducible exact LeO.refl _)
   | (with_reducible exact LeO.none _)
   | (with_reducible refine LeO.ite ?_ ?_)
   | (with_reducible refine LeO.bind ?_ (fun _ => ?_))
   | exact ih0 _ _ _ _ _ _ _ _ _
   | exact ih1 _ _ _ _ _ _ _ _ _ _ _ _ _ _ _
   | exact ih2 _ _ _ _ _ _ _ _ _ _ _ _ _ _
   | exact ih3 _ _ _ _ _ _ _ _ _ _ _ _ _ _
   | exact ih4 _ _ _ _ _ _ _ _ _ _ _ _ _
   | exact ih5 _ _ _ _ _ _ _ _ _ _ _ _ _ _
   | exact LeO.none _
   | refine LeO.ite ?_ ?_
   | refine LeO.bind ?_ (fun _ => ?_)
  ·intro y0 y1 y2 y3 y4 y5 y6 y7 y8 y9 y10 y11 y12 y13
   unfold narrow_without.j3
   repeat' first
   | (with_reducible exact ih0 _ _ _ _ _ _ _ _ _)
   | (with_reducible exact ih1 _ _ _ _ _ _ _ _ _ _ _ _ _ _ _)
   | (with_reducible exact ih2 _ _ _ _ _ _ _ _ _ _ _ _ _ _)
   | (with_reducible exact ih3 _ _ _ _ _ _ _ _ _ _ _ _ _ _)
   | (with_reducible exact ih4 _ _ _ _ _ _ _ _ _ _ _ _ _)
   | (with_reducible exact ih5 _ _ _ _ _ _ _ _ _ _ _ _ _ _)
   | (with_reducible exact LeO.refl _)
   | (with_reducible exact LeO.none _)
   | (with_reducible refine LeO.ite ?_ ?_)
   | (with_reducible refine LeO.bind ?_ (fun _ => ?_))
   | exact ih0 _ _ _ _ _ _ _ _ _
   | exact ih1 _ _ _ _ _ _ _ _ _ _ _ _ _ _ _
   | exact ih2 _ _ _ _ _ _ _ _ _ _ _ _ _ _
   | exact ih3 _ _ _ _ _ _ _ _ _ _ _ _ _ _
   | exact ih4 _ _ _ _ _ _ _ _ _ _ _ _ _
   | exact ih5 _ _ _ _ _ _ _ _ _ _ _ _ _ _
   | exact LeO.none _
   | refine LeO.ite ?_ ?_
   | refine LeO.bind ?_ (fun _ => ?_)
  ·intro y0 y1 y2 y3 y4 y5 y6 y7 y8 y9 y10 y11 y12
   unfold narrow_without.j4
   repeat' first
   | (with_reducible exact ih0 _ _ _ _ _ _ _ _ _)
   | (with_reducible exact ih1 _ _ _ _ _ _ _ _ _ _ _ _ _ _ _)
   | (with_reducible exact ih2 _ _ _ _ _ _ _ _ _ _ _ _ _ _)
   | (with_reducible exact ih3 _ _ _ _ _ _ _ _ _ _ _ _ _ _)
   | (with_reducible exact ih4 _ _ _ _ _ _ _ _ _ _ _ _ _)
   | (with_reducible exact ih5 _ _ _ _ _ _ _ _ _ _ _ _ _ _)
   | (with_reducible exact LeO.refl _)
   | (with_reducible exact LeO.none _)
   | (with_reducible refine LeO.ite ?_ ?_)
   | (with_reducible refine LeO.bind ?_ (fun _ => ?_))
   | exact ih0 _ _ _ _ _ _ _ _ _
   | exact ih1 _ _ _ _ _ _ _ _ _ _ _ _ _ _ _
   | exact ih2 _ _ _ _ _ _ _ _ _ _ _ _ _ _
   | exact ih3 _ _ _ _ _ _ _ _ _ _ _ _ _ _
   | exact ih4 _ _ _ _ _ _ _ _ _ _ _ _ _
   | exact ih5 _ _ _ _ _ _ _ _ _ _ _ _ _ _
   | exact LeO.none _
   | refine LeO.ite ?_ ?_
   | refine LeO.bind ?_ (fun _ => ?_)
  ·intro y0 y1 y2 y3 y4 y5 y6 y7 y8 y9 y10 y11 y12 y13
   unfold narrow_without.j5
   repeat' first
   | (with_reducible exact ih0 _ _ _ _ _ _ _ _ _)
   | (with_reducible exact ih1 _ _ _ _ _ _ _ _ _ _ _ _ _ _ _)
   | (with_reducible exact ih2 _ _ _ _ _ _ _ _ _ _ _ _ _ _)
   | (with_reducible exact ih3 _ _ _ _ _ _ _ _ _ _ _ _ _ _)
   | (with_reducible exact ih4 _ _ _ _ _ _ _ _ _ _ _ _ _)
   | (with_reducible exact ih5 _ _ _ _ _ _ _ _ _ _ _ _ _ _)
   | (with_reducible exact LeO.refl _)
   | (with_reducible exact LeO.none _)
   | (with_reducible refine LeO.ite ?_ ?_)
   | (with_reducible refine LeO.bind ?_ (fun _ => ?_))
   | exact ih0 _ _ _ _ _ _ _ _ _
   | exact ih1 _ _ _ _ _ _ _ _ _ _ _ _ _ _ _
   | exact ih2 _ _ _ _ _ _ _ _ _ _ _ _ _ _
   | exact ih3 _ _ _ _ _ _ _ _ _ _ _ _ _ _
   | exact ih4 _ _ _ _ _ _ _ _ _ _ _ _ _
   | exact ih5 _ _ _ _ _ _ _ _ _ _ _ _ _ _
   | exact LeO.none _
   | refine LeO.ite ?_ ?_
   | refine LeO.bind ?_ (fun _ => ?_)
theorem narrow_without.mono : ∀ a0 a1 a2 a3 a4 a5 a6 k, LeO (narrow_without.f k a0 a1 a2 a3 a4 a5 a6) (narrow_without.f (k + 1) a0 a1 a2 a3 a4 a5 a6) := by
 intro a0 a1 a2 a3 a4 a5 a6 k
 obtain ⟨ih0, ih1, ih2, ih3, ih4, ih5⟩ := narrow_without.mono_l k
 unfold narrow_without.f
 repeat' first
   | (with_reducible exact ih0 _ _ _ _ _ _ _ _ _)
   | (with_reducible exact ih1 _ _ _ _ _ _ _ _ _ _ _ _ _ _ _)
   | (with_reducible exact ih2 _ _ _ _ _ _ _ _ _ _ _ _ _ _)
   | (with_reducible exact ih3 _ _ _ _ _ _ _ _ _ _ _ _ _ _)
   | (with_reducible exact ih4 _ _ _ _ _ _ _ _ _ _ _ _ _)
   | (with_reducible exact ih5 _ _ _ _ _ _ _ _ _ _ _ _ _ _)
   | (with_reducible exact LeO.refl _)
   | (with_reducible exact LeO.none _)
   | (with_reducible refine LeO.ite ?_ ?_)
   | (with_reducible refine LeO.bind ?_ (fun _ => ?_))
   | exact ih0 _ _ _ _ _ _ _ _ _
   | exact ih1 _ _ _ _ _ _ _ _ _ _ _ _ _ _ _
   | exact ih2 _ _ _ _ _ _ _ _ _ _ _ _ _ _
   | exact ih3 _ _ _ _ _ _ _ _ _ _ _ _ _ _
   | exact ih4 _ _ _ _ _ _ _ _ _ _ _ _ _
   | exact ih5 _ _ _ _ _ _ _ _ _ _ _ _ _ _
   | exact LeO.none _
   | refine LeO.ite ?_ ?_
   | refine LeO.bind ?_ (fun _ => ?_)
set_option maxHeartbeats 8000000 in
set_option maxRecDepth 100000 in
theorem narrow_without.calls (k : Nat) (a0_0 : Int) (a0_1 : Int) (a0_2 : Int) (a0_3 : Int) (a0_4 : Int) (a0_5 : Int) (a1 : Int) (r1 : Int) (r2 : Int) (r3 : Int) (r4 : Int) (r5 : Int) (r6 : Int) (r7 : Bool) (w : World) (h : narrow_without.f k a0_0 a0_1 a0_2 a0_3 a0_4 a0_5 a1 = some (r1, r2, r3, r4, r5, r6, r7)) :
  Calls Try.prog 103 #[.agg #[.int .u64 a0_0, .int .u64 a0_1, .int .u64 a0_2, .int .u64 a0_3, .int .i64 a0_4, .int .i64 a0_5], .int .u64 a1] w fun e w' => e = .returned (.tuple #[.agg #[.int .u64 r1, .int .u64 r2, .int .u64 r3, .int .u64 r4, .int .i64 r5, .int .i64 r6], .bool r7]) ∧ Below w.heap.size w w' := by
 have hu36 := Try.underlying36
 have HB := Aside0.mk (Below.refl w.heap.size w)
 have H : (if a0_2 = a1 then (narrow_without.j0 k a1 (wrap64 (a1)) (a0_3 == a1) a0_0 a0_1 a0_2 a0_3 a0_4 a0_5) else (narrow_without.j0 k a1 (wrap64 (a1)) false a0_0 a0_1 a0_2 a0_3 a0_4 a0_5)) = some (r1, r2, r3, r4, r5, r6, r7) := h
 clear h
 have HC3 := Aside0.mk H
 clear H
 go_enter Try.func103, Try.ntmps103
 go_upto_region 2 with (first | ((with_reducible refine gate_dst (N := 2) rfl ?_); refine box_event ?hg (N := 2) ?hd (cs := #[.int .u64 a0_0, .int .u64 a0_1, .int .u64 a0_2, .int .u64 a0_3, .int .i64 a0_4, .int .i64 a0_5]) (t := 36) ?hr ?_; (case hd => rfl); (case hg => rfl); (case hr => first | (go_simp; done) | (go_simp; rfl)); intro gb147 hg w4 hbox hb; have n0_ := Aside0.mk (below_step (by repeat (first | (with_reducible first | exact HB.out | apply below_alloc | apply pw_below_drewN | apply below_drew1) | exact HB.out)) hb); have n1_ := Aside0.mk (hbox); have n2_ := Aside0.mk ((by rw [hg]; exact (below_size (by repeat (first | (with_reducible first | exact HB.out | apply below_alloc | apply pw_below_drewN | apply below_drew1) | exact HB.out))) : w.heap.size ≤ gb147)); have n3_ := Aside0.mk ((by rw [hg]; exact (below_size (by repeat (first | (with_reducible first | exact HB.out | apply below_alloc | apply pw_below_drewN | apply below_drew1) | exact HB.out))) : w.heap.size ≤ gb147)); clear HB; have HB := n0_; have BK147 := n1_; have GW147 := n2_; have GE147 := n3_; clear n0_ n1_ n2_ n3_; clear hb hbox hg) | ((with_reducible refine gate_dst (N := 4) rfl ?_); refine box_event ?hg (N := 4) ?hd (cs := #[.int .u64 0, .int .u64 0, .int .u64 0, .int .u64 0, .int .i64 0, .int .i64 0]) (t := 36) ?hr ?_; (case hd => rfl); (case hg => rfl); (case hr => first | (go_simp; done) | (go_simp; rfl)); intro gb148 hg w5 hbox hb; have n0_ := Aside0.mk (blk_below (g := gb147) (o := .cells #[.int .u64 a0_0, .int .u64 a0_1, .int .u64 a0_2, .int .u64 a0_3, .int .i64 a0_4, .int .i64 a0_5] 36 (0, 0)) (by (with_reducible repeat (first | refine blk_drewN ?_ _ | refine blk_drew ?_ | refine blk_alloc ?_ _)); exact BK147.out) hb); have n1_ := Aside0.mk (below_step (by repeat (first | (with_reducible first | exact HB.out | apply below_alloc | apply pw_below_drewN | apply below_drew1 | refine below_set ?_ GE147.out) | exact HB.out)) hb); have n2_ := Aside0.mk (hbox); have n3_ := Aside0.mk ((by rw [hg]; exact (below_size (by repeat (first | (with_reducible first | exact HB.out | apply below_alloc | apply pw_below_drewN | apply below_drew1 | refine below_set ?_ GE147.out) | exact HB.out))) : w.heap.size ≤ gb148)); have n4_ := Aside0.mk ((by rw [hg]; exact (below_size (by repeat (first | (with_reducible first | exact HB.out | apply below_alloc | apply pw_below_drewN | apply below_drew1 | refine below_set ?_ GE147.out) | exact HB.out))) : w.heap.size ≤ gb148)); have n5_ := Aside0.mk ((by rw [hg]; exact Nat.ne_of_lt (blk_lt (g := gb147) (o := .cells #[.int .u64 a0_0, .int .u64 a0_1, .int .u64 a0_2, .int .u64 a0_3, .int .i64 a0_4, .int .i64 a0_5] 36 (0, 0)) (by (with_reducible repeat (first | refine blk_drewN ?_ _ | refine blk_drew ?_ | refine blk_alloc ?_ _)); exact BK147.out)) : gb147 ≠ gb148)); have n6_ := Aside0.mk ((by rw [hg]; exact Nat.ne_of_gt (blk_lt (g := gb147) (o := .cells #[.int .u64 a0_0, .int .u64 a0_1, .int .u64 a0_2, .int .u64 a0_3, .int .i64 a0_4, .int .i64 a0_5] 36 (0, 0)) (by (with_reducible repeat (first | refine blk_drewN ?_ _ | refine blk_drew ?_ | refine blk_alloc ?_ _)); exact BK147.out)) : gb148 ≠ gb147)); clear BK147; clear HB; have BK147 := n0_; have HB := n1_; have BK148 := n2_; have GW148 := n3_; have GE148 := n4_; have NB147_148 := n5_; have NB148_147 := n6_; clear n0_ n1_ n2_ n3_ n4_ n5_ n6_; clear hb hbox hg))
 (try simp only [Act.put, List.setIfInBounds_toArray, List.set_cons_zero, List.set_cons_succ])
 go_cut [19] (fun v19 wc => ∃ (kq : Nat) (x19_2 : Bool), v19 = .bool x19_2 ∧ Aside0 (narrow_without.j0 kq a1 (wrap64 (a1)) x19_2 a0_0 a0_1 a0_2 a0_3 a0_4 a0_5 = some (r1, r2, r3, r4, r5, r6, r7)) ∧ Aside0 (kq ≤ k) ∧ Aside0 (wc.heap[gb147]? = some (.cells #[.int .u64 a0_0, .int .u64 a0_1, .int .u64 a0_2, .int .u64 a0_3, .int .i64 a0_4, .int .i64 a0_5] 36 (0, 0))) ∧ Aside0 (wc.heap[gb148]? = some (.cells #[.int .u64 0, .int .u64 0, .int .u64 0, .int .u64 0, .int .i64 0, .int .i64 0] 36 (0, 0))) ∧ Aside0 (Below w.heap.size w wc))
 case first =>
  have H := HC3.out
  clear HC3
  by_cases c6 : a0_2 = a1
  ·rw [if_pos c6] at H
   have c6b0 : (a0_2 == a1) = true := beq_iff_eq.mpr c6
   have c6b1 : (a0_2 != a1) = false := bne_eq_false_iff_eq.mpr c6
   clear c6
   (first | rw [c6b0] | (simp only [i64_w, i32_w]; rw [c6b0]) | skip)
   have H' := Aside0.mk H
   clear H
   have hnb7 := NB147_148.out
   have hnc7 := NB148_147.out
   have hcz8_0 : w5.cell? ⟨gb147, 0, none⟩ = some (.int .u64 a0_0) := (blk_cell BK147.out 0).trans rfl
   have hcz8_1 : w5.cell? ⟨gb147, 1, none⟩ = some (.int .u64 a0_1) := (blk_cell BK147.out 1).trans rfl
   have hcz8_2 : w5.cell? ⟨gb147, 2, none⟩ = some (.int .u64 a0_2) := (blk_cell BK147.out 2).trans rfl
   have hcz8_3 : w5.cell? ⟨gb147, 3, none⟩ = some (.int .u64 a0_3) := (blk_cell BK147.out 3).trans rfl
   have hcz8_4 : w5.cell? ⟨gb147, 4, none⟩ = some (.int .i64 a0_4) := (blk_cell BK147.out 4).trans rfl
   have hcz8_5 : w5.cell? ⟨gb147, 5, none⟩ = some (.int .i64 a0_5) := (blk_cell BK147.out 5).trans rfl
   have hfz8_0 := blk_frozen BK147.out 0
   have hfz8_1 := blk_frozen BK147.out 1
   have hfz8_2 := blk_frozen BK147.out 2
   have hfz8_3 := blk_frozen BK147.out 3
   have hfz8_4 := blk_frozen BK147.out 4
   have hfz8_5 := blk_frozen BK147.out 5
   go_wp2
   go_meet
   case rel => exact ⟨_, ((a0_3 == a1)), (by first | rfl | (simp; done) | (simp [*]; done)), H', ⟨by first | omega | exact Nat.le_refl _⟩, ⟨by (with_reducible repeat (first | refine blk_drewN ?_ _ | refine blk_drew ?_ | refine blk_alloc ?_ _)); exact BK147.out⟩, ⟨by (with_reducible repeat (first | refine blk_drewN ?_ _ | refine blk_drew ?_ | refine blk_alloc ?_ _)); exact BK148.out⟩, ⟨by repeat (first | (with_reducible first | exact HB.out | apply below_alloc | apply pw_below_drewN | apply below_drew1 | refine below_set ?_ GE147.out | refine below_set ?_ GE148.out) | exact HB.out)⟩⟩
  ·rw [if_neg c6] at H
   have c6b0 : (a0_2 == a1) = false := beq_eq_false_iff_ne.mpr c6
   have c6b1 : (a0_2 != a1) = true := bne_iff_ne.mpr c6
   (first | rw [c6b0] | (simp only [i64_w, i32_w]; rw [c6b0]) | skip)
   have H' := Aside0.mk H
   clear H
   have hnb9 := NB147_148.out
   have hnc9 := NB148_147.out
   have hcz10_0 : w5.cell? ⟨gb147, 0, none⟩ = some (.int .u64 a0_0) := (blk_cell BK147.out 0).trans rfl
   have hcz10_1 : w5.cell? ⟨gb147, 1, none⟩ = some (.int .u64 a0_1) := (blk_cell BK147.out 1).trans rfl
   have hcz10_2 : w5.cell? ⟨gb147, 2, none⟩ = some (.int .u64 a0_2) := (blk_cell BK147.out 2).trans rfl
   have hcz10_3 : w5.cell? ⟨gb147, 3, none⟩ = some (.int .u64 a0_3) := (blk_cell BK147.out 3).trans rfl
   have hcz10_4 : w5.cell? ⟨gb147, 4, none⟩ = some (.int .i64 a0_4) := (blk_cell BK147.out 4).trans rfl
   have hcz10_5 : w5.cell? ⟨gb147, 5, none⟩ = some (.int .i64 a0_5) := (blk_cell BK147.out 5).trans rfl
   have hfz10_0 := blk_frozen BK147.out 0
   have hfz10_1 := blk_frozen BK147.out 1
   have hfz10_2 := blk_frozen BK147.out 2
   have hfz10_3 := blk_frozen BK147.out 3
   have hfz10_4 := blk_frozen BK147.out 4
   have hfz10_5 := blk_frozen BK147.out 5
   go_wp2
   go_meet
   case rel => exact ⟨_, (false), (by first | rfl | (simp; done) | (simp [*]; done)), H', ⟨by first | omega | exact Nat.le_refl _⟩, ⟨by (with_reducible repeat (first | refine blk_drewN ?_ _ | refine blk_drew ?_ | refine blk_alloc ?_ _)); exact BK147.out⟩, ⟨by (with_reducible repeat (first | refine blk_drewN ?_ _ | refine blk_drew ?_ | refine blk_alloc ?_ _)); exact BK148.out⟩, ⟨by repeat (first | (with_reducible first | exact HB.out | apply below_alloc | apply pw_below_drewN | apply below_drew1 | refine below_set ?_ GE147.out | refine below_set ?_ GE148.out) | exact HB.out)⟩⟩
 case rest =>
  clear HC3
  try clear c1
  try clear p2
  try clear c6
  try clear c6b0
  try clear c6b1
  try clear p6
  try clear c7
  try clear c9
  try clear c10
  try clear hcz10_0
  try clear hcz10_1
  try clear hcz10_2
  try clear hcz10_3
  try clear hcz10_4
  try clear hcz10_5
  try clear hcz8_0
  try clear hcz8_1
  try clear hcz8_2
  try clear hcz8_3
  try clear hcz8_4
  try clear hcz8_5
  try clear hfz10_0
  try clear hfz10_1
  try clear hfz10_2
  try clear hfz10_3
  try clear hfz10_4
  try clear hfz10_5
  try clear hfz8_0
  try clear hfz8_1
  try clear hfz8_2
  try clear hfz8_3
  try clear hfz8_4
  try clear hfz8_5
  obtain ⟨kq, x19_2, rfl, HA, HJ2, BK147, BK148, HB⟩ := hcut
  cases kq with
  | zero => exact absurd HA.out (by simp [narrow_without.j0])
  | succ kj2 =>
   have H := HA.out
   clear HA
   simp only [narrow_without.j0] at H
   by_cases c11 : x19_2 = true
   ·subst c11
    have H1 : (some (a0_0, a0_1, a0_2, a0_3, a0_4, a0_5, false)) = some (r1, r2, r3, r4, r5, r6, r7) := by rw [if_pos rfl] at H; exact H
    clear H
    have H := H1
    clear H1
    simp only [Option.some.injEq, Prod.mk.injEq] at H
    obtain ⟨rfl, rfl, rfl, rfl, rfl, rfl, rfl⟩ := H
    have hnb12 := NB147_148.out
    have hnc12 := NB148_147.out
    have hcz13_0 : wc.cell? ⟨gb147, 0, none⟩ = some (.int .u64 a0_0) := (blk_cell BK147.out 0).trans rfl
    have hcz13_1 : wc.cell? ⟨gb147, 1, none⟩ = some (.int .u64 a0_1) := (blk_cell BK147.out 1).trans rfl
    have hcz13_2 : wc.cell? ⟨gb147, 2, none⟩ = some (.int .u64 a0_2) := (blk_cell BK147.out 2).trans rfl
    have hcz13_3 : wc.cell? ⟨gb147, 3, none⟩ = some (.int .u64 a0_3) := (blk_cell BK147.out 3).trans rfl
    have hcz13_4 : wc.cell? ⟨gb147, 4, none⟩ = some (.int .i64 a0_4) := (blk_cell BK147.out 4).trans rfl
    have hcz13_5 : wc.cell? ⟨gb147, 5, none⟩ = some (.int .i64 a0_5) := (blk_cell BK147.out 5).trans rfl
    have hfz13_0 := blk_frozen BK147.out 0
    have hfz13_1 := blk_frozen BK147.out 1
    have hfz13_2 := blk_frozen BK147.out 2
    have hfz13_3 := blk_frozen BK147.out 3
    have hfz13_4 := blk_frozen BK147.out 4
    have hfz13_5 := blk_frozen BK147.out 5
    have hcz14_0 : wc.cell? ⟨gb148, 0, none⟩ = some (.int .u64 0) := (blk_cell BK148.out 0).trans rfl
    have hcz14_1 : wc.cell? ⟨gb148, 1, none⟩ = some (.int .u64 0) := (blk_cell BK148.out 1).trans rfl
    have hcz14_2 : wc.cell? ⟨gb148, 2, none⟩ = some (.int .u64 0) := (blk_cell BK148.out 2).trans rfl
    have hcz14_3 : wc.cell? ⟨gb148, 3, none⟩ = some (.int .u64 0) := (blk_cell BK148.out 3).trans rfl
    have hcz14_4 : wc.cell? ⟨gb148, 4, none⟩ = some (.int .i64 0) := (blk_cell BK148.out 4).trans rfl
    have hcz14_5 : wc.cell? ⟨gb148, 5, none⟩ = some (.int .i64 0) := (blk_cell BK148.out 5).trans rfl
    have hfz14_0 := blk_frozen BK148.out 0
    have hfz14_1 := blk_frozen BK148.out 1
    have hfz14_2 := blk_frozen BK148.out 2
    have hfz14_3 := blk_frozen BK148.out 3
    have hfz14_4 := blk_frozen BK148.out 4
    have hfz14_5 := blk_frozen BK148.out 5
    go_wp2
    refine bodyPost_ret (results_ct rfl _ _ gb148 36 #[.int .u64 a0_0, .int .u64 a0_1, .int .u64 a0_2, .int .u64 a0_3, .int .i64 a0_4, .int .i64 a0_5] (0, 0) _ rfl (by (with_reducible repeat (first | refine blk_drewN ?_ _ | refine blk_drew ?_ | refine blk_alloc ?_ _)); refine blk_put (cs := #[.int .u64 a0_0, .int .u64 a0_1, .int .u64 a0_2, .int .u64 a0_3, .int .i64 a0_4, .int .i64 0]) ?_ 5 _ rfl; (with_reducible repeat (first | refine blk_drewN ?_ _ | refine blk_drew ?_ | refine blk_alloc ?_ _)); refine blk_put (cs := #[.int .u64 a0_0, .int .u64 a0_1, .int .u64 a0_2, .int .u64 a0_3, .int .i64 0, .int .i64 0]) ?_ 4 _ rfl; (with_reducible repeat (first | refine blk_drewN ?_ _ | refine blk_drew ?_ | refine blk_alloc ?_ _)); refine blk_put (cs := #[.int .u64 a0_0, .int .u64 a0_1, .int .u64 a0_2, .int .u64 0, .int .i64 0, .int .i64 0]) ?_ 3 _ rfl; (with_reducible repeat (first | refine blk_drewN ?_ _ | refine blk_drew ?_ | refine blk_alloc ?_ _)); refine blk_put (cs := #[.int .u64 a0_0, .int .u64 a0_1, .int .u64 0, .int .u64 0, .int .i64 0, .int .i64 0]) ?_ 2 _ rfl; (with_reducible repeat (first | refine blk_drewN ?_ _ | refine blk_drew ?_ | refine blk_alloc ?_ _)); refine blk_put (cs := #[.int .u64 a0_0, .int .u64 0, .int .u64 0, .int .u64 0, .int .i64 0, .int .i64 0]) ?_ 1 _ rfl; (with_reducible repeat (first | refine blk_drewN ?_ _ | refine blk_drew ?_ | refine blk_alloc ?_ _)); refine blk_put (cs := #[.int .u64 0, .int .u64 0, .int .u64 0, .int .u64 0, .int .i64 0, .int .i64 0]) ?_ 0 _ rfl; (with_reducible repeat (first | refine blk_drewN ?_ _ | refine blk_drew ?_ | refine blk_alloc ?_ _)); exact BK148.out) Try.underlying36 rfl (by kernel_rfl)) rfl ?_
    exact ⟨by first | rfl | (simp [errW_none, errW_some] <;> rfl) | (simp [*, errW_none, errW_some] <;> rfl), by repeat (first | (with_reducible first | exact HB.out | apply below_alloc | apply pw_below_drewN | apply below_drew1 | refine below_set ?_ GE147.out | refine below_set ?_ GE148.out) | exact HB.out)⟩
   ·replace c11 := Bool.eq_false_iff.mpr c11
    subst c11
    have H1 : (if a0_2 = a1 then (narrow_without.j1 kj2 a1 (wrap64 (a1)) (decide (a1 < 18446744073709551615)) a0_0 a0_1 a0_2 a0_3 a0_4 a0_5 a0_0 a0_1 a0_2 a0_3 a0_4 a0_5) else (narrow_without.j1 kj2 a1 (wrap64 (a1)) false a0_0 a0_1 a0_2 a0_3 a0_4 a0_5 a0_0 a0_1 a0_2 a0_3 a0_4 a0_5)) = some (r1, r2, r3, r4, r5, r6, r7) := by rw [if_neg (show ¬ (false = true) by decide)] at H; exact H
    clear H
    have H := H1
    clear H1
    have HC15 := Aside0.mk H
    clear H
    have hnb16 := NB147_148.out
    have hnc16 := NB148_147.out
    have hcz17_0 : wc.cell? ⟨gb147, 0, none⟩ = some (.int .u64 a0_0) := (blk_cell BK147.out 0).trans rfl
    have hcz17_1 : wc.cell? ⟨gb147, 1, none⟩ = some (.int .u64 a0_1) := (blk_cell BK147.out 1).trans rfl
    have hcz17_2 : wc.cell? ⟨gb147, 2, none⟩ = some (.int .u64 a0_2) := (blk_cell BK147.out 2).trans rfl
    have hcz17_3 : wc.cell? ⟨gb147, 3, none⟩ = some (.int .u64 a0_3) := (blk_cell BK147.out 3).trans rfl
    have hcz17_4 : wc.cell? ⟨gb147, 4, none⟩ = some (.int .i64 a0_4) := (blk_cell BK147.out 4).trans rfl
    have hcz17_5 : wc.cell? ⟨gb147, 5, none⟩ = some (.int .i64 a0_5) := (blk_cell BK147.out 5).trans rfl
    have hfz17_0 := blk_frozen BK147.out 0
    have hfz17_1 := blk_frozen BK147.out 1
    have hfz17_2 := blk_frozen BK147.out 2
    have hfz17_3 := blk_frozen BK147.out 3
    have hfz17_4 := blk_frozen BK147.out 4
    have hfz17_5 := blk_frozen BK147.out 5
    go_upto_region 5 with (first | ((with_reducible refine gate_dst (N := 7) rfl ?_); refine box_event ?hg (N := 7) ?hd (cs := #[.int .u64 0, .int .u64 0, .int .u64 0, .int .u64 0, .int .i64 0, .int .i64 0]) (t := 36) ?hr ?_; (case hd => rfl); (case hg => rfl); (case hr => first | (go_simp; done) | (go_simp; rfl)); intro gb149 hg w18 hbox hb; have n0_ := Aside0.mk (blk_below (g := gb147) (o := .cells #[.int .u64 a0_0, .int .u64 a0_1, .int .u64 a0_2, .int .u64 a0_3, .int .i64 a0_4, .int .i64 a0_5] 36 (0, 0)) (by (with_reducible repeat (first | refine blk_drewN ?_ _ | refine blk_drew ?_ | refine blk_alloc ?_ _)); exact BK147.out) hb); have n1_ := Aside0.mk (blk_below (g := gb148) (o := .cells #[.int .u64 0, .int .u64 0, .int .u64 0, .int .u64 0, .int .i64 0, .int .i64 0] 36 (0, 0)) (by (with_reducible repeat (first | refine blk_drewN ?_ _ | refine blk_drew ?_ | refine blk_alloc ?_ _)); exact BK148.out) hb); have n2_ := Aside0.mk (below_step (by repeat (first | (with_reducible first | exact HB.out | apply below_alloc | apply pw_below_drewN | apply below_drew1 | refine below_set ?_ GE147.out | refine below_set ?_ GE148.out) | exact HB.out)) hb); have n3_ := Aside0.mk (hbox); have n4_ := Aside0.mk ((by rw [hg]; exact (below_size (by repeat (first | (with_reducible first | exact HB.out | apply below_alloc | apply pw_below_drewN | apply below_drew1 | refine below_set ?_ GE147.out | refine below_set ?_ GE148.out) | exact HB.out))) : w.heap.size ≤ gb149)); have n5_ := Aside0.mk ((by rw [hg]; exact (below_size (by repeat (first | (with_reducible first | exact HB.out | apply below_alloc | apply pw_below_drewN | apply below_drew1 | refine below_set ?_ GE147.out | refine below_set ?_ GE148.out) | exact HB.out))) : w.heap.size ≤ gb149)); have n6_ := Aside0.mk ((by rw [hg]; exact Nat.ne_of_lt (blk_lt (g := gb147) (o := .cells #[.int .u64 a0_0, .int .u64 a0_1, .int .u64 a0_2, .int .u64 a0_3, .int .i64 a0_4, .int .i64 a0_5] 36 (0, 0)) (by (with_reducible repeat (first | refine blk_drewN ?_ _ | refine blk_drew ?_ | refine blk_alloc ?_ _)); exact BK147.out)) : gb147 ≠ gb149)); have n7_ := Aside0.mk ((by rw [hg]; exact Nat.ne_of_gt (blk_lt (g := gb147) (o := .cells #[.int .u64 a0_0, .int .u64 a0_1, .int .u64 a0_2, .int .u64 a0_3, .int .i64 a0_4, .int .i64 a0_5] 36 (0, 0)) (by (with_reducible repeat (first | refine blk_drewN ?_ _ | refine blk_drew ?_ | refine blk_alloc ?_ _)); exact BK147.out)) : gb149 ≠ gb147)); have n8_ := Aside0.mk ((by rw [hg]; exact Nat.ne_of_lt (blk_lt (g := gb148) (o := .cells #[.int .u64 0, .int .u64 0, .int .u64 0, .int .u64 0, .int .i64 0, .int .i64 0] 36 (0, 0)) (by (with_reducible repeat (first | refine blk_drewN ?_ _ | refine blk_drew ?_ | refine blk_alloc ?_ _)); exact BK148.out)) : gb148 ≠ gb149)); have n9_ := Aside0.mk ((by rw [hg]; exact Nat.ne_of_gt (blk_lt (g := gb148) (o := .cells #[.int .u64 0, .int .u64 0, .int .u64 0, .int .u64 0, .int .i64 0, .int .i64 0] 36 (0, 0)) (by (with_reducible repeat (first | refine blk_drewN ?_ _ | refine blk_drew ?_ | refine blk_alloc ?_ _)); exact BK148.out)) : gb149 ≠ gb148)); clear BK147; clear BK148; clear HB; have BK147 := n0_; have BK148 := n1_; have HB := n2_; have BK149 := n3_; have GW149 := n4_; have GE149 := n5_; have NB147_149 := n6_; have NB149_147 := n7_; have NB148_149 := n8_; have NB149_148 := n9_; clear n0_ n1_ n2_ n3_ n4_ n5_ n6_ n7_ n8_ n9_; clear hb hbox hg; have hnb19 := NB149_147.out; have hnc19 := NB147_149.out; have hnb20 := NB149_148.out; have hnc20 := NB148_149.out; have hcz21_0 : w18.cell? ⟨gb149, 0, none⟩ = some (.int .u64 0) := (blk_cell BK149.out 0).trans rfl; have hcz21_1 : w18.cell? ⟨gb149, 1, none⟩ = some (.int .u64 0) := (blk_cell BK149.out 1).trans rfl; have hcz21_2 : w18.cell? ⟨gb149, 2, none⟩ = some (.int .u64 0) := (blk_cell BK149.out 2).trans rfl; have hcz21_3 : w18.cell? ⟨gb149, 3, none⟩ = some (.int .u64 0) := (blk_cell BK149.out 3).trans rfl; have hcz21_4 : w18.cell? ⟨gb149, 4, none⟩ = some (.int .i64 0) := (blk_cell BK149.out 4).trans rfl; have hcz21_5 : w18.cell? ⟨gb149, 5, none⟩ = some (.int .i64 0) := (blk_cell BK149.out 5).trans rfl; have hfz21_0 := blk_frozen BK149.out 0; have hfz21_1 := blk_frozen BK149.out 1; have hfz21_2 := blk_frozen BK149.out 2; have hfz21_3 := blk_frozen BK149.out 3; have hfz21_4 := blk_frozen BK149.out 4; have hfz21_5 := blk_frozen BK149.out 5))
    (try simp only [Act.put, List.setIfInBounds_toArray, List.set_cons_zero, List.set_cons_succ])
    go_cut [29] (fun v29 wc => ∃ (kq : Nat) (x29_14 : Bool), v29 = .bool x29_14 ∧ Aside0 (narrow_without.j1 kq a1 (wrap64 (a1)) x29_14 a0_0 a0_1 a0_2 a0_3 a0_4 a0_5 a0_0 a0_1 a0_2 a0_3 a0_4 a0_5 = some (r1, r2, r3, r4, r5, r6, r7)) ∧ Aside0 (kq ≤ kj2) ∧ Aside0 (wc.heap[gb147]? = some (.cells #[.int .u64 a0_0, .int .u64 a0_1, .int .u64 a0_2, .int .u64 a0_3, .int .i64 a0_4, .int .i64 a0_5] 36 (0, 0))) ∧ Aside0 (wc.heap[gb148]? = some (.cells #[.int .u64 0, .int .u64 0, .int .u64 0, .int .u64 0, .int .i64 0, .int .i64 0] 36 (0, 0))) ∧ Aside0 (wc.heap[gb149]? = some (.cells #[.int .u64 a0_0, .int .u64 a0_1, .int .u64 a0_2, .int .u64 a0_3, .int .i64 a0_4, .int .i64 a0_5] 36 (0, 0))) ∧ Aside0 (Below w.heap.size w wc))
    case first =>
     have H := HC15.out
     clear HC15
     by_cases c22 : a0_2 = a1
     ·rw [if_pos c22] at H
      have c22b0 : (a0_2 == a1) = true := beq_iff_eq.mpr c22
      have c22b1 : (a0_2 != a1) = false := bne_eq_false_iff_eq.mpr c22
      clear c22
      (first | rw [c22b0] | (simp only [i64_w, i32_w]; rw [c22b0]) | skip)
      have H' := Aside0.mk H
      clear H
      have hnb23 := NB147_148.out
      have hnc23 := NB148_147.out
      have hnb24 := NB147_149.out
      have hnc24 := NB149_147.out
      have hcz25_0 : w18.cell? ⟨gb147, 0, none⟩ = some (.int .u64 a0_0) := (blk_cell BK147.out 0).trans rfl
      have hcz25_1 : w18.cell? ⟨gb147, 1, none⟩ = some (.int .u64 a0_1) := (blk_cell BK147.out 1).trans rfl
      have hcz25_2 : w18.cell? ⟨gb147, 2, none⟩ = some (.int .u64 a0_2) := (blk_cell BK147.out 2).trans rfl
      have hcz25_3 : w18.cell? ⟨gb147, 3, none⟩ = some (.int .u64 a0_3) := (blk_cell BK147.out 3).trans rfl
      have hcz25_4 : w18.cell? ⟨gb147, 4, none⟩ = some (.int .i64 a0_4) := (blk_cell BK147.out 4).trans rfl
      have hcz25_5 : w18.cell? ⟨gb147, 5, none⟩ = some (.int .i64 a0_5) := (blk_cell BK147.out 5).trans rfl
      have hfz25_0 := blk_frozen BK147.out 0
      have hfz25_1 := blk_frozen BK147.out 1
      have hfz25_2 := blk_frozen BK147.out 2
      have hfz25_3 := blk_frozen BK147.out 3
      have hfz25_4 := blk_frozen BK147.out 4
      have hfz25_5 := blk_frozen BK147.out 5
      go_wp2
      go_meet
      case rel => exact ⟨_, (decide (a1 < 18446744073709551615)), (by first | rfl | (simp; done) | (simp [*]; done)), H', ⟨by have := HJ2.out; first | omega | exact Nat.le_refl _⟩, ⟨by (with_reducible repeat (first | refine blk_drewN ?_ _ | refine blk_drew ?_ | refine blk_alloc ?_ _)); refine blk_far ?_ NB147_149.out _; (with_reducible repeat (first | refine blk_drewN ?_ _ | refine blk_drew ?_ | refine blk_alloc ?_ _)); refine blk_far ?_ NB147_149.out _; (with_reducible repeat (first | refine blk_drewN ?_ _ | refine blk_drew ?_ | refine blk_alloc ?_ _)); refine blk_far ?_ NB147_149.out _; (with_reducible repeat (first | refine blk_drewN ?_ _ | refine blk_drew ?_ | refine blk_alloc ?_ _)); refine blk_far ?_ NB147_149.out _; (with_reducible repeat (first | refine blk_drewN ?_ _ | refine blk_drew ?_ | refine blk_alloc ?_ _)); refine blk_far ?_ NB147_149.out _; (with_reducible repeat (first | refine blk_drewN ?_ _ | refine blk_drew ?_ | refine blk_alloc ?_ _)); refine blk_far ?_ NB147_149.out _; (with_reducible repeat (first | refine blk_drewN ?_ _ | refine blk_drew ?_ | refine blk_alloc ?_ _)); exact BK147.out⟩, ⟨by (with_reducible repeat (first | refine blk_drewN ?_ _ | refine blk_drew ?_ | refine blk_alloc ?_ _)); refine blk_far ?_ NB148_149.out _; (with_reducible repeat (first | refine blk_drewN ?_ _ | refine blk_drew ?_ | refine blk_alloc ?_ _)); refine blk_far ?_ NB148_149.out _; (with_reducible repeat (first | refine blk_drewN ?_ _ | refine blk_drew ?_ | refine blk_alloc ?_ _)); refine blk_far ?_ NB148_149.out _; (with_reducible repeat (first | refine blk_drewN ?_ _ | refine blk_drew ?_ | refine blk_alloc ?_ _)); refine blk_far ?_ NB148_149.out _; (with_reducible repeat (first | refine blk_drewN ?_ _ | refine blk_drew ?_ | refine blk_alloc ?_ _)); refine blk_far ?_ NB148_149.out _; (with_reducible repeat (first | refine blk_drewN ?_ _ | refine blk_drew ?_ | refine blk_alloc ?_ _)); refine blk_far ?_ NB148_149.out _; (with_reducible repeat (first | refine blk_drewN ?_ _ | refine blk_drew ?_ | refine blk_alloc ?_ _)); exact BK148.out⟩, ⟨by (with_reducible repeat (first | refine blk_drewN ?_ _ | refine blk_drew ?_ | refine blk_alloc ?_ _)); refine blk_put (cs := #[.int .u64 a0_0, .int .u64 a0_1, .int .u64 a0_2, .int .u64 a0_3, .int .i64 a0_4, .int .i64 0]) ?_ 5 _ rfl; (with_reducible repeat (first | refine blk_drewN ?_ _ | refine blk_drew ?_ | refine blk_alloc ?_ _)); refine blk_put (cs := #[.int .u64 a0_0, .int .u64 a0_1, .int .u64 a0_2, .int .u64 a0_3, .int .i64 0, .int .i64 0]) ?_ 4 _ rfl; (with_reducible repeat (first | refine blk_drewN ?_ _ | refine blk_drew ?_ | refine blk_alloc ?_ _)); refine blk_put (cs := #[.int .u64 a0_0, .int .u64 a0_1, .int .u64 a0_2, .int .u64 0, .int .i64 0, .int .i64 0]) ?_ 3 _ rfl; (with_reducible repeat (first | refine blk_drewN ?_ _ | refine blk_drew ?_ | refine blk_alloc ?_ _)); refine blk_put (cs := #[.int .u64 a0_0, .int .u64 a0_1, .int .u64 0, .int .u64 0, .int .i64 0, .int .i64 0]) ?_ 2 _ rfl; (with_reducible repeat (first | refine blk_drewN ?_ _ | refine blk_drew ?_ | refine blk_alloc ?_ _)); refine blk_put (cs := #[.int .u64 a0_0, .int .u64 0, .int .u64 0, .int .u64 0, .int .i64 0, .int .i64 0]) ?_ 1 _ rfl; (with_reducible repeat (first | refine blk_drewN ?_ _ | refine blk_drew ?_ | refine blk_alloc ?_ _)); refine blk_put (cs := #[.int .u64 0, .int .u64 0, .int .u64 0, .int .u64 0, .int .i64 0, .int .i64 0]) ?_ 0 _ rfl; (with_reducible repeat (first | refine blk_drewN ?_ _ | refine blk_drew ?_ | refine blk_alloc ?_ _)); exact BK149.out⟩, ⟨by repeat (first | (with_reducible first | exact HB.out | apply below_alloc | apply pw_below_drewN | apply below_drew1 | refine below_set ?_ GE147.out | refine below_set ?_ GE148.out | refine below_set ?_ GE149.out) | exact HB.out)⟩⟩
     ·rw [if_neg c22] at H
      have c22b0 : (a0_2 == a1) = false := beq_eq_false_iff_ne.mpr c22
      have c22b1 : (a0_2 != a1) = true := bne_iff_ne.mpr c22
      (first | rw [c22b0] | (simp only [i64_w, i32_w]; rw [c22b0]) | skip)
      have H' := Aside0.mk H
      clear H
      have hnb26 := NB147_148.out
      have hnc26 := NB148_147.out
      have hnb27 := NB147_149.out
      have hnc27 := NB149_147.out
      have hcz28_0 : w18.cell? ⟨gb147, 0, none⟩ = some (.int .u64 a0_0) := (blk_cell BK147.out 0).trans rfl
      have hcz28_1 : w18.cell? ⟨gb147, 1, none⟩ = some (.int .u64 a0_1) := (blk_cell BK147.out 1).trans rfl
      have hcz28_2 : w18.cell? ⟨gb147, 2, none⟩ = some (.int .u64 a0_2) := (blk_cell BK147.out 2).trans rfl
      have hcz28_3 : w18.cell? ⟨gb147, 3, none⟩ = some (.int .u64 a0_3) := (blk_cell BK147.out 3).trans rfl
      have hcz28_4 : w18.cell? ⟨gb147, 4, none⟩ = some (.int .i64 a0_4) := (blk_cell BK147.out 4).trans rfl
      have hcz28_5 : w18.cell? ⟨gb147, 5, none⟩ = some (.int .i64 a0_5) := (blk_cell BK147.out 5).trans rfl
      have hfz28_0 := blk_frozen BK147.out 0
      have hfz28_1 := blk_frozen BK147.out 1
      have hfz28_2 := blk_frozen BK147.out 2
      have hfz28_3 := blk_frozen BK147.out 3
      have hfz28_4 := blk_frozen BK147.out 4
      have hfz28_5 := blk_frozen BK147.out 5
      go_wp2
      go_meet
      case rel => exact ⟨_, (false), (by first | rfl | (simp; done) | (simp [*]; done)), H', ⟨by have := HJ2.out; first | omega | exact Nat.le_refl _⟩, ⟨by (with_reducible repeat (first | refine blk_drewN ?_ _ | refine blk_drew ?_ | refine blk_alloc ?_ _)); refine blk_far ?_ NB147_149.out _; (with_reducible repeat (first | refine blk_drewN ?_ _ | refine blk_drew ?_ | refine blk_alloc ?_ _)); refine blk_far ?_ NB147_149.out _; (with_reducible repeat (first | refine blk_drewN ?_ _ | refine blk_drew ?_ | refine blk_alloc ?_ _)); refine blk_far ?_ NB147_149.out _; (with_reducible repeat (first | refine blk_drewN ?_ _ | refine blk_drew ?_ | refine blk_alloc ?_ _)); refine blk_far ?_ NB147_149.out _; (with_reducible repeat (first | refine blk_drewN ?_ _ | refine blk_drew ?_ | refine blk_alloc ?_ _)); refine blk_far ?_ NB147_149.out _; (with_reducible repeat (first | refine blk_drewN ?_ _ | refine blk_drew ?_ | refine blk_alloc ?_ _)); refine blk_far ?_ NB147_149.out _; (with_reducible repeat (first | refine blk_drewN ?_ _ | refine blk_drew ?_ | refine blk_alloc ?_ _)); exact BK147.out⟩, ⟨by (with_reducible repeat (first | refine blk_drewN ?_ _ | refine blk_drew ?_ | refine blk_alloc ?_ _)); refine blk_far ?_ NB148_149.out _; (with_reducible repeat (first | refine blk_drewN ?_ _ | refine blk_drew ?_ | refine blk_alloc ?_ _)); refine blk_far ?_ NB148_149.out _; (with_reducible repeat (first | refine blk_drewN ?_ _ | refine blk_drew ?_ | refine blk_alloc ?_ _)); refine blk_far ?_ NB148_149.out _; (with_reducible repeat (first | refine blk_drewN ?_ _ | refine blk_drew ?_ | refine blk_alloc ?_ _)); refine blk_far ?_ NB148_149.out _; (with_reducible repeat (first | refine blk_drewN ?_ _ | refine blk_drew ?_ | refine blk_alloc ?_ _)); refine blk_far ?_ NB148_149.out _; (with_reducible repeat (first | refine blk_drewN ?_ _ | refine blk_drew ?_ | refine blk_alloc ?_ _)); refine blk_far ?_ NB148_149.out _; (with_reducible repeat (first | refine blk_drewN ?_ _ | refine blk_drew ?_ | refine blk_alloc ?_ _)); exact BK148.out⟩, ⟨by (with_reducible repeat (first | refine blk_drewN ?_ _ | refine blk_drew ?_ | refine blk_alloc ?_ _)); refine blk_put (cs := #[.int .u64 a0_0, .int .u64 a0_1, .int .u64 a0_2, .int .u64 a0_3, .int .i64 a0_4, .int .i64 0]) ?_ 5 _ rfl; (with_reducible repeat (first | refine blk_drewN ?_ _ | refine blk_drew ?_ | refine blk_alloc ?_ _)); refine blk_put (cs := #[.int .u64 a0_0, .int .u64 a0_1, .int .u64 a0_2, .int .u64 a0_3, .int .i64 0, .int .i64 0]) ?_ 4 _ rfl; (with_reducible repeat (first | refine blk_drewN ?_ _ | refine blk_drew ?_ | refine blk_alloc ?_ _)); refine blk_put (cs := #[.int .u64 a0_0, .int .u64 a0_1, .int .u64 a0_2, .int .u64 0, .int .i64 0, .int .i64 0]) ?_ 3 _ rfl; (with_reducible repeat (first | refine blk_drewN ?_ _ | refine blk_drew ?_ | refine blk_alloc ?_ _)); refine blk_put (cs := #[.int .u64 a0_0, .int .u64 a0_1, .int .u64 0, .int .u64 0, .int .i64 0, .int .i64 0]) ?_ 2 _ rfl; (with_reducible repeat (first | refine blk_drewN ?_ _ | refine blk_drew ?_ | refine blk_alloc ?_ _)); refine blk_put (cs := #[.int .u64 a0_0, .int .u64 0, .int .u64 0, .int .u64 0, .int .i64 0, .int .i64 0]) ?_ 1 _ rfl; (with_reducible repeat (first | refine blk_drewN ?_ _ | refine blk_drew ?_ | refine blk_alloc ?_ _)); refine blk_put (cs := #[.int .u64 0, .int .u64 0, .int .u64 0, .int .u64 0, .int .i64 0, .int .i64 0]) ?_ 0 _ rfl; (with_reducible repeat (first | refine blk_drewN ?_ _ | refine blk_drew ?_ | refine blk_alloc ?_ _)); exact BK149.out⟩, ⟨by repeat (first | (with_reducible first | exact HB.out | apply below_alloc | apply pw_below_drewN | apply below_drew1 | refine below_set ?_ GE147.out | refine below_set ?_ GE148.out | refine below_set ?_ GE149.out) | exact HB.out)⟩⟩
    case rest =>
     clear HC15
     try clear c1
     try clear c2
     try clear p2
     try clear c6
     try clear c6b0
     try clear c6b1
     try clear p6
     try clear c7
     try clear c9
     try clear c10
     try clear c11
     try clear c12
     try clear c16
     try clear c19
     try clear c20
     try clear c22
     try clear c22b0
     try clear c22b1
     try clear c23
     try clear c24
     try clear c26
     try clear c27
     try clear hcz10_0
     try clear hcz10_1
     try clear hcz10_2
     try clear hcz10_3
     try clear hcz10_4
     try clear hcz10_5
     try clear hcz13_0
     try clear hcz13_1
     try clear hcz13_2
     try clear hcz13_3
     try clear hcz13_4
     try clear hcz13_5
     try clear hcz14_0
     try clear hcz14_1
     try clear hcz14_2
     try clear hcz14_3
     try clear hcz14_4
     try clear hcz14_5
     try clear hcz17_0
     try clear hcz17_1
     try clear hcz17_2
     try clear hcz17_3
     try clear hcz17_4
     try clear hcz17_5
     try clear hcz21_0
     try clear hcz21_1
     try clear hcz21_2
     try clear hcz21_3
     try clear hcz21_4
     try clear hcz21_5
     try clear hcz25_0
     try clear hcz25_1
     try clear hcz25_2
     try clear hcz25_3
     try clear hcz25_4
     try clear hcz25_5
     try clear hcz28_0
     try clear hcz28_1
     try clear hcz28_2
     try clear hcz28_3
     try clear hcz28_4
     try clear hcz28_5
     try clear hcz8_0
     try clear hcz8_1
     try clear hcz8_2
     try clear hcz8_3
     try clear hcz8_4
     try clear hcz8_5
     try clear hfz10_0
     try clear hfz10_1
     try clear hfz10_2
     try clear hfz10_3
     try clear hfz10_4
     try clear hfz10_5
     try clear hfz13_0
     try clear hfz13_1
     try clear hfz13_2
     try clear hfz13_3
     try clear hfz13_4
     try clear hfz13_5
     try clear hfz14_0
     try clear hfz14_1
     try clear hfz14_2
     try clear hfz14_3
     try clear hfz14_4
     try clear hfz14_5
     try clear hfz17_0
     try clear hfz17_1
     try clear hfz17_2
     try clear hfz17_3
     try clear hfz17_4
     try clear hfz17_5
     try clear hfz21_0
     try clear hfz21_1
     try clear hfz21_2
     try clear hfz21_3
     try clear hfz21_4
     try clear hfz21_5
     try clear hfz25_0
     try clear hfz25_1
     try clear hfz25_2
     try clear hfz25_3
     try clear hfz25_4
     try clear hfz25_5
     try clear hfz28_0
     try clear hfz28_1
     try clear hfz28_2
     try clear hfz28_3
     try clear hfz28_4
     try clear hfz28_5
     try clear hfz8_0
     try clear hfz8_1
     try clear hfz8_2
     try clear hfz8_3
     try clear hfz8_4
     try clear hfz8_5
     try clear p2
     try clear p6
     obtain ⟨kq, x29_14, rfl, HA, HJ14, BK147, BK148, BK149, HB⟩ := hcut
     cases kq with
     | zero => exact absurd HA.out (by simp [narrow_without.j1])
     | succ kj14 =>
      have H := HA.out
      clear HA
      simp only [narrow_without.j1] at H
      have HC29 := Aside0.mk H
      clear H
      go_upto_if 29 with (fail)
      go_cut [] (fun wc => ∃ (kq : Nat) (x150002_28 : Int), Aside0 (narrow_without.j2 kq a1 (wrap64 (a1)) a0_0 a0_1 a0_2 a0_3 a0_4 a0_5 a0_0 a0_1 x150002_28 a0_3 a0_4 a0_5 = some (r1, r2, r3, r4, r5, r6, r7)) ∧ Aside0 (kq ≤ kj14) ∧ Aside0 (wc.heap[gb147]? = some (.cells #[.int .u64 a0_0, .int .u64 a0_1, .int .u64 a0_2, .int .u64 a0_3, .int .i64 a0_4, .int .i64 a0_5] 36 (0, 0))) ∧ Aside0 (wc.heap[gb148]? = some (.cells #[.int .u64 0, .int .u64 0, .int .u64 0, .int .u64 0, .int .i64 0, .int .i64 0] 36 (0, 0))) ∧ Aside0 (wc.heap[gb149]? = some (.cells #[.int .u64 a0_0, .int .u64 a0_1, .int .u64 x150002_28, .int .u64 a0_3, .int .i64 a0_4, .int .i64 a0_5] 36 (0, 0))) ∧ Aside0 (Below w.heap.size w wc))
      case first =>
       have H := HC29.out
       clear HC29
       by_cases c30 : x29_14 = true
       ·subst c30
        have H1 : (narrow_without.j2 kj14 a1 (wrap64 (a1)) a0_0 a0_1 a0_2 a0_3 a0_4 a0_5 a0_0 a0_1 (IntKind.u64.wrap (a0_2 + 1)) a0_3 a0_4 a0_5) = some (r1, r2, r3, r4, r5, r6, r7) := by rw [if_pos rfl] at H; exact H
        clear H
        have H := H1
        clear H1
        have H' := Aside0.mk H
        clear H
        have hnb31 := NB149_147.out
        have hnc31 := NB147_149.out
        have hnb32 := NB149_148.out
        have hnc32 := NB148_149.out
        have hcz33_0 : wc.cell? ⟨gb149, 0, none⟩ = some (.int .u64 a0_0) := (blk_cell BK149.out 0).trans rfl
        have hcz33_1 : wc.cell? ⟨gb149, 1, none⟩ = some (.int .u64 a0_1) := (blk_cell BK149.out 1).trans rfl
        have hcz33_2 : wc.cell? ⟨gb149, 2, none⟩ = some (.int .u64 a0_2) := (blk_cell BK149.out 2).trans rfl
        have hcz33_3 : wc.cell? ⟨gb149, 3, none⟩ = some (.int .u64 a0_3) := (blk_cell BK149.out 3).trans rfl
        have hcz33_4 : wc.cell? ⟨gb149, 4, none⟩ = some (.int .i64 a0_4) := (blk_cell BK149.out 4).trans rfl
        have hcz33_5 : wc.cell? ⟨gb149, 5, none⟩ = some (.int .i64 a0_5) := (blk_cell BK149.out 5).trans rfl
        have hfz33_0 := blk_frozen BK149.out 0
        have hfz33_1 := blk_frozen BK149.out 1
        have hfz33_2 := blk_frozen BK149.out 2
        have hfz33_3 := blk_frozen BK149.out 3
        have hfz33_4 := blk_frozen BK149.out 4
        have hfz33_5 := blk_frozen BK149.out 5
        go_wp2
        go_meet
        case rel => exact ⟨_, (IntKind.u64.wrap (a0_2 + 1)), H', ⟨by have := HJ2.out; have := HJ14.out; first | omega | exact Nat.le_refl _⟩, ⟨by (with_reducible repeat (first | refine blk_drewN ?_ _ | refine blk_drew ?_ | refine blk_alloc ?_ _)); refine blk_far ?_ NB147_149.out _; (with_reducible repeat (first | refine blk_drewN ?_ _ | refine blk_drew ?_ | refine blk_alloc ?_ _)); exact BK147.out⟩, ⟨by (with_reducible repeat (first | refine blk_drewN ?_ _ | refine blk_drew ?_ | refine blk_alloc ?_ _)); refine blk_far ?_ NB148_149.out _; (with_reducible repeat (first | refine blk_drewN ?_ _ | refine blk_drew ?_ | refine blk_alloc ?_ _)); exact BK148.out⟩, ⟨by (with_reducible repeat (first | refine blk_drewN ?_ _ | refine blk_drew ?_ | refine blk_alloc ?_ _)); refine blk_put (cs := #[.int .u64 a0_0, .int .u64 a0_1, .int .u64 a0_2, .int .u64 a0_3, .int .i64 a0_4, .int .i64 a0_5]) ?_ 2 _ rfl; (with_reducible repeat (first | refine blk_drewN ?_ _ | refine blk_drew ?_ | refine blk_alloc ?_ _)); exact BK149.out⟩, ⟨by repeat (first | (with_reducible first | exact HB.out | apply below_alloc | apply pw_below_drewN | apply below_drew1 | refine below_set ?_ GE147.out | refine below_set ?_ GE148.out | refine below_set ?_ GE149.out) | exact HB.out)⟩⟩
       ·replace c30 := Bool.eq_false_iff.mpr c30
        subst c30
        have H1 : (narrow_without.j2 kj14 a1 (wrap64 (a1)) a0_0 a0_1 a0_2 a0_3 a0_4 a0_5 a0_0 a0_1 a0_2 a0_3 a0_4 a0_5) = some (r1, r2, r3, r4, r5, r6, r7) := by rw [if_neg (show ¬ (false = true) by decide)] at H; exact H
        clear H
        have H := H1
        clear H1
        have H' := Aside0.mk H
        clear H
        go_wp2
        go_meet
        case rel => exact ⟨_, (a0_2), H', ⟨by have := HJ2.out; have := HJ14.out; first | omega | exact Nat.le_refl _⟩, ⟨by (with_reducible repeat (first | refine blk_drewN ?_ _ | refine blk_drew ?_ | refine blk_alloc ?_ _)); exact BK147.out⟩, ⟨by (with_reducible repeat (first | refine blk_drewN ?_ _ | refine blk_drew ?_ | refine blk_alloc ?_ _)); exact BK148.out⟩, ⟨by (with_reducible repeat (first | refine blk_drewN ?_ _ | refine blk_drew ?_ | refine blk_alloc ?_ _)); exact BK149.out⟩, ⟨by repeat (first | (with_reducible first | exact HB.out | apply below_alloc | apply pw_below_drewN | apply below_drew1 | refine below_set ?_ GE147.out | refine below_set ?_ GE148.out | refine below_set ?_ GE149.out) | exact HB.out)⟩⟩
      case rest =>
       clear HC29
       try clear c1
       try clear c2
       try clear p2
       try clear c3
       try clear c6
       try clear c6b0
       try clear c6b1
       try clear p6
       try clear c7
       try clear c9
       try clear c10
       try clear c11
       try clear c12
       try clear c16
       try clear c19
       try clear c20
       try clear c22
       try clear c22b0
       try clear c22b1
       try clear c23
       try clear c24
       try clear c26
       try clear c27
       try clear c30
       try clear c31
       try clear c32
       try clear hcz10_0
       try clear hcz10_1
       try clear hcz10_2
       try clear hcz10_3
       try clear hcz10_4
       try clear hcz10_5
       try clear hcz13_0
       try clear hcz13_1
       try clear hcz13_2
       try clear hcz13_3
       try clear hcz13_4
       try clear hcz13_5
       try clear hcz14_0
       try clear hcz14_1
       try clear hcz14_2
       try clear hcz14_3
       try clear hcz14_4
       try clear hcz14_5
       try clear hcz17_0
       try clear hcz17_1
       try clear hcz17_2
       try clear hcz17_3
       try clear hcz17_4
       try clear hcz17_5
       try clear hcz21_0
       try clear hcz21_1
       try clear hcz21_2
       try clear hcz21_3
       try clear hcz21_4
       try clear hcz21_5
       try clear hcz25_0
       try clear hcz25_1
       try clear hcz25_2
       try clear hcz25_3
       try clear hcz25_4
       try clear hcz25_5
       try clear hcz28_0
       try clear hcz28_1
       try clear hcz28_2
       try clear hcz28_3
       try clear hcz28_4
       try clear hcz28_5
       try clear hcz33_0
       try clear hcz33_1
       try clear hcz33_2
       try clear hcz33_3
       try clear hcz33_4
       try clear hcz33_5
       try clear hcz8_0
       try clear hcz8_1
       try clear hcz8_2
       try clear hcz8_3
       try clear hcz8_4
       try clear hcz8_5
       try clear hfz10_0
       try clear hfz10_1
       try clear hfz10_2
       try clear hfz10_3
       try clear hfz10_4
       try clear hfz10_5
       try clear hfz13_0
       try clear hfz13_1
       try clear hfz13_2
       try clear hfz13_3
       try clear hfz13_4
       try clear hfz13_5
       try clear hfz14_0
       try clear hfz14_1
       try clear hfz14_2
       try clear hfz14_3
       try clear hfz14_4
       try clear hfz14_5
       try clear hfz17_0
       try clear hfz17_1
       try clear hfz17_2
       try clear hfz17_3
       try clear hfz17_4
       try clear hfz17_5
       try clear hfz21_0
       try clear hfz21_1
       try clear hfz21_2
       try clear hfz21_3
       try clear hfz21_4
       try clear hfz21_5
       try clear hfz25_0
       try clear hfz25_1
       try clear hfz25_2
       try clear hfz25_3
       try clear hfz25_4
       try clear hfz25_5
       try clear hfz28_0
       try clear hfz28_1
       try clear hfz28_2
       try clear hfz28_3
       try clear hfz28_4
       try clear hfz28_5
       try clear hfz33_0
       try clear hfz33_1
       try clear hfz33_2
       try clear hfz33_3
       try clear hfz33_4
       try clear hfz33_5
       try clear hfz8_0
       try clear hfz8_1
       try clear hfz8_2
       try clear hfz8_3
       try clear hfz8_4
       try clear hfz8_5
       try clear p2
       try clear p6
       obtain ⟨kq, x150002_28, HA, HJ28, BK147, BK148, BK149, HB⟩ := hcut
       cases kq with
       | zero => exact absurd HA.out (by simp [narrow_without.j2])
       | succ kj28 =>
        have H := HA.out
        clear HA
        simp only [narrow_without.j2] at H
        have HC34 := Aside0.mk H
        clear H
        go_upto_region 7 with (fail)
        go_cut [41] (fun v41 wc => ∃ (kq : Nat) (x41_33 : Bool), v41 = .bool x41_33 ∧ Aside0 (narrow_without.j3 kq (wrap64 (a1)) x41_33 a0_0 a0_1 a0_2 a0_3 a0_4 a0_5 a0_0 a0_1 x150002_28 a0_3 a0_4 a0_5 = some (r1, r2, r3, r4, r5, r6, r7)) ∧ Aside0 (kq ≤ kj28) ∧ Aside0 (wc.heap[gb147]? = some (.cells #[.int .u64 a0_0, .int .u64 a0_1, .int .u64 a0_2, .int .u64 a0_3, .int .i64 a0_4, .int .i64 a0_5] 36 (0, 0))) ∧ Aside0 (wc.heap[gb148]? = some (.cells #[.int .u64 0, .int .u64 0, .int .u64 0, .int .u64 0, .int .i64 0, .int .i64 0] 36 (0, 0))) ∧ Aside0 (wc.heap[gb149]? = some (.cells #[.int .u64 a0_0, .int .u64 a0_1, .int .u64 x150002_28, .int .u64 a0_3, .int .i64 a0_4, .int .i64 a0_5] 36 (0, 0))) ∧ Aside0 (Below w.heap.size w wc))
        case first =>
         have H := HC34.out
         clear HC34
         by_cases c35 : a0_3 = a1
         ·rw [if_pos c35] at H
          have c35b0 : (a0_3 == a1) = true := beq_iff_eq.mpr c35
          have c35b1 : (a0_3 != a1) = false := bne_eq_false_iff_eq.mpr c35
          clear c35
          (first | rw [c35b0] | (simp only [i64_w, i32_w]; rw [c35b0]) | skip)
          have H' := Aside0.mk H
          clear H
          have hnb36 := NB147_148.out
          have hnc36 := NB148_147.out
          have hnb37 := NB147_149.out
          have hnc37 := NB149_147.out
          have hcz38_0 : wc.cell? ⟨gb147, 0, none⟩ = some (.int .u64 a0_0) := (blk_cell BK147.out 0).trans rfl
          have hcz38_1 : wc.cell? ⟨gb147, 1, none⟩ = some (.int .u64 a0_1) := (blk_cell BK147.out 1).trans rfl
          have hcz38_2 : wc.cell? ⟨gb147, 2, none⟩ = some (.int .u64 a0_2) := (blk_cell BK147.out 2).trans rfl
          have hcz38_3 : wc.cell? ⟨gb147, 3, none⟩ = some (.int .u64 a0_3) := (blk_cell BK147.out 3).trans rfl
          have hcz38_4 : wc.cell? ⟨gb147, 4, none⟩ = some (.int .i64 a0_4) := (blk_cell BK147.out 4).trans rfl
          have hcz38_5 : wc.cell? ⟨gb147, 5, none⟩ = some (.int .i64 a0_5) := (blk_cell BK147.out 5).trans rfl
          have hfz38_0 := blk_frozen BK147.out 0
          have hfz38_1 := blk_frozen BK147.out 1
          have hfz38_2 := blk_frozen BK147.out 2
          have hfz38_3 := blk_frozen BK147.out 3
          have hfz38_4 := blk_frozen BK147.out 4
          have hfz38_5 := blk_frozen BK147.out 5
          go_wp2
          go_meet
          case rel => exact ⟨_, (decide (a1 > 0)), (by first | rfl | (simp; done) | (simp [*]; done)), H', ⟨by have := HJ2.out; have := HJ14.out; have := HJ28.out; first | omega | exact Nat.le_refl _⟩, ⟨by (with_reducible repeat (first | refine blk_drewN ?_ _ | refine blk_drew ?_ | refine blk_alloc ?_ _)); exact BK147.out⟩, ⟨by (with_reducible repeat (first | refine blk_drewN ?_ _ | refine blk_drew ?_ | refine blk_alloc ?_ _)); exact BK148.out⟩, ⟨by (with_reducible repeat (first | refine blk_drewN ?_ _ | refine blk_drew ?_ | refine blk_alloc ?_ _)); exact BK149.out⟩, ⟨by repeat (first | (with_reducible first | exact HB.out | apply below_alloc | apply pw_below_drewN | apply below_drew1 | refine below_set ?_ GE147.out | refine below_set ?_ GE148.out | refine below_set ?_ GE149.out) | exact HB.out)⟩⟩
         ·rw [if_neg c35] at H
          have c35b0 : (a0_3 == a1) = false := beq_eq_false_iff_ne.mpr c35
          have c35b1 : (a0_3 != a1) = true := bne_iff_ne.mpr c35
          (first | rw [c35b0] | (simp only [i64_w, i32_w]; rw [c35b0]) | skip)
          have H' := Aside0.mk H
          clear H
          have hnb39 := NB147_148.out
          have hnc39 := NB148_147.out
          have hnb40 := NB147_149.out
          have hnc40 := NB149_147.out
          have hcz41_0 : wc.cell? ⟨gb147, 0, none⟩ = some (.int .u64 a0_0) := (blk_cell BK147.out 0).trans rfl
          have hcz41_1 : wc.cell? ⟨gb147, 1, none⟩ = some (.int .u64 a0_1) := (blk_cell BK147.out 1).trans rfl
          have hcz41_2 : wc.cell? ⟨gb147, 2, none⟩ = some (.int .u64 a0_2) := (blk_cell BK147.out 2).trans rfl
          have hcz41_3 : wc.cell? ⟨gb147, 3, none⟩ = some (.int .u64 a0_3) := (blk_cell BK147.out 3).trans rfl
          have hcz41_4 : wc.cell? ⟨gb147, 4, none⟩ = some (.int .i64 a0_4) := (blk_cell BK147.out 4).trans rfl
          have hcz41_5 : wc.cell? ⟨gb147, 5, none⟩ = some (.int .i64 a0_5) := (blk_cell BK147.out 5).trans rfl
          have hfz41_0 := blk_frozen BK147.out 0
          have hfz41_1 := blk_frozen BK147.out 1
          have hfz41_2 := blk_frozen BK147.out 2
          have hfz41_3 := blk_frozen BK147.out 3
          have hfz41_4 := blk_frozen BK147.out 4
          have hfz41_5 := blk_frozen BK147.out 5
          go_wp2
          go_meet
          case rel => exact ⟨_, (false), (by first | rfl | (simp; done) | (simp [*]; done)), H', ⟨by have := HJ2.out; have := HJ14.out; have := HJ28.out; first | omega | exact Nat.le_refl _⟩, ⟨by (with_reducible repeat (first | refine blk_drewN ?_ _ | refine blk_drew ?_ | refine blk_alloc ?_ _)); exact BK147.out⟩, ⟨by (with_reducible repeat (first | refine blk_drewN ?_ _ | refine blk_drew ?_ | refine blk_alloc ?_ _)); exact BK148.out⟩, ⟨by (with_reducible repeat (first | refine blk_drewN ?_ _ | refine blk_drew ?_ | refine blk_alloc ?_ _)); exact BK149.out⟩, ⟨by repeat (first | (with_reducible first | exact HB.out | apply below_alloc | apply pw_below_drewN | apply below_drew1 | refine below_set ?_ GE147.out | refine below_set ?_ GE148.out | refine below_set ?_ GE149.out) | exact HB.out)⟩⟩
        case rest =>
         clear HC34
         try clear c1
         try clear c2
         try clear p2
         try clear c3
         try clear c4
         try clear c6
         try clear c6b0
         try clear c6b1
         try clear p6
         try clear c7
         try clear c9
         try clear c10
         try clear c11
         try clear c12
         try clear c16
         try clear c19
         try clear c20
         try clear c22
         try clear c22b0
         try clear c22b1
         try clear c23
         try clear c24
         try clear c26
         try clear c27
         try clear c30
         try clear c31
         try clear c32
         try clear c35
         try clear c35b0
         try clear c35b1
         try clear c36
         try clear c37
         try clear c39
         try clear c40
         try clear hcz10_0
         try clear hcz10_1
         try clear hcz10_2
         try clear hcz10_3
         try clear hcz10_4
         try clear hcz10_5
         try clear hcz13_0
         try clear hcz13_1
         try clear hcz13_2
         try clear hcz13_3
         try clear hcz13_4
         try clear hcz13_5
         try clear hcz14_0
         try clear hcz14_1
         try clear hcz14_2
         try clear hcz14_3
         try clear hcz14_4
         try clear hcz14_5
         try clear hcz17_0
         try clear hcz17_1
         try clear hcz17_2
         try clear hcz17_3
         try clear hcz17_4
         try clear hcz17_5
         try clear hcz21_0
         try clear hcz21_1
         try clear hcz21_2
         try clear hcz21_3
         try clear hcz21_4
         try clear hcz21_5
         try clear hcz25_0
         try clear hcz25_1
         try clear hcz25_2
         try clear hcz25_3
         try clear hcz25_4
         try clear hcz25_5
         try clear hcz28_0
         try clear hcz28_1
         try clear hcz28_2
         try clear hcz28_3
         try clear hcz28_4
         try clear hcz28_5
         try clear hcz33_0
         try clear hcz33_1
         try clear hcz33_2
         try clear hcz33_3
         try clear hcz33_4
         try clear hcz33_5
         try clear hcz38_0
         try clear hcz38_1
         try clear hcz38_2
         try clear hcz38_3
         try clear hcz38_4
         try clear hcz38_5
         try clear hcz41_0
         try clear hcz41_1
         try clear hcz41_2
         try clear hcz41_3
         try clear hcz41_4
         try clear hcz41_5
         try clear hcz8_0
         try clear hcz8_1
         try clear hcz8_2
         try clear hcz8_3
         try clear hcz8_4
         try clear hcz8_5
         try clear hfz10_0
         try clear hfz10_1
         try clear hfz10_2
         try clear hfz10_3
         try clear hfz10_4
         try clear hfz10_5
         try clear hfz13_0
         try clear hfz13_1
         try clear hfz13_2
         try clear hfz13_3
         try clear hfz13_4
         try clear hfz13_5
         try clear hfz14_0
         try clear hfz14_1
         try clear hfz14_2
         try clear hfz14_3
         try clear hfz14_4
         try clear hfz14_5
         try clear hfz17_0
         try clear hfz17_1
         try clear hfz17_2
         try clear hfz17_3
         try clear hfz17_4
         try clear hfz17_5
         try clear hfz21_0
         try clear hfz21_1
         try clear hfz21_2
         try clear hfz21_3
         try clear hfz21_4
         try clear hfz21_5
         try clear hfz25_0
         try clear hfz25_1
         try clear hfz25_2
         try clear hfz25_3
         try clear hfz25_4
         try clear hfz25_5
         try clear hfz28_0
         try clear hfz28_1
         try clear hfz28_2
         try clear hfz28_3
         try clear hfz28_4
         try clear hfz28_5
         try clear hfz33_0
         try clear hfz33_1
         try clear hfz33_2
         try clear hfz33_3
         try clear hfz33_4
         try clear hfz33_5
         try clear hfz38_0
         try clear hfz38_1
         try clear hfz38_2
         try clear hfz38_3
         try clear hfz38_4
         try clear hfz38_5
         try clear hfz41_0
         try clear hfz41_1
         try clear hfz41_2
         try clear hfz41_3
         try clear hfz41_4
         try clear hfz41_5
         try clear hfz8_0
         try clear hfz8_1
         try clear hfz8_2
         try clear hfz8_3
         try clear hfz8_4
         try clear hfz8_5
         try clear p2
         try clear p6
         obtain ⟨kq, x41_33, rfl, HA, HJ33, BK147, BK148, BK149, HB⟩ := hcut
         cases kq with
         | zero => exact absurd HA.out (by simp [narrow_without.j3])
         | succ kj33 =>
          have H := HA.out
          clear HA
          simp only [narrow_without.j3] at H
          have HC42 := Aside0.mk H
          clear H
          go_upto_if 41 with (fail)
          go_cut [] (fun wc => ∃ (kq : Nat) (x150003_41 : Int), Aside0 (narrow_without.j4 kq (wrap64 (a1)) a0_0 a0_1 a0_2 a0_3 a0_4 a0_5 a0_0 a0_1 x150002_28 x150003_41 a0_4 a0_5 = some (r1, r2, r3, r4, r5, r6, r7)) ∧ Aside0 (kq ≤ kj33) ∧ Aside0 (wc.heap[gb147]? = some (.cells #[.int .u64 a0_0, .int .u64 a0_1, .int .u64 a0_2, .int .u64 a0_3, .int .i64 a0_4, .int .i64 a0_5] 36 (0, 0))) ∧ Aside0 (wc.heap[gb148]? = some (.cells #[.int .u64 0, .int .u64 0, .int .u64 0, .int .u64 0, .int .i64 0, .int .i64 0] 36 (0, 0))) ∧ Aside0 (wc.heap[gb149]? = some (.cells #[.int .u64 a0_0, .int .u64 a0_1, .int .u64 x150002_28, .int .u64 x150003_41, .int .i64 a0_4, .int .i64 a0_5] 36 (0, 0))) ∧ Aside0 (Below w.heap.size w wc))
          case first =>
           have H := HC42.out
           clear HC42
           by_cases c43 : x41_33 = true
           ·subst c43
            have H1 : (narrow_without.j4 kj33 (wrap64 (a1)) a0_0 a0_1 a0_2 a0_3 a0_4 a0_5 a0_0 a0_1 x150002_28 (IntKind.u64.wrap (a0_3 - 1)) a0_4 a0_5) = some (r1, r2, r3, r4, r5, r6, r7) := by rw [if_pos rfl] at H; exact H
            clear H
            have H := H1
            clear H1
            have H' := Aside0.mk H
            clear H
            have hnb44 := NB149_147.out
            have hnc44 := NB147_149.out
            have hnb45 := NB149_148.out
            have hnc45 := NB148_149.out
            have hcz46_0 : wc.cell? ⟨gb149, 0, none⟩ = some (.int .u64 a0_0) := (blk_cell BK149.out 0).trans rfl
            have hcz46_1 : wc.cell? ⟨gb149, 1, none⟩ = some (.int .u64 a0_1) := (blk_cell BK149.out 1).trans rfl
            have hcz46_2 : wc.cell? ⟨gb149, 2, none⟩ = some (.int .u64 x150002_28) := (blk_cell BK149.out 2).trans rfl
            have hcz46_3 : wc.cell? ⟨gb149, 3, none⟩ = some (.int .u64 a0_3) := (blk_cell BK149.out 3).trans rfl
            have hcz46_4 : wc.cell? ⟨gb149, 4, none⟩ = some (.int .i64 a0_4) := (blk_cell BK149.out 4).trans rfl
            have hcz46_5 : wc.cell? ⟨gb149, 5, none⟩ = some (.int .i64 a0_5) := (blk_cell BK149.out 5).trans rfl
            have hfz46_0 := blk_frozen BK149.out 0
            have hfz46_1 := blk_frozen BK149.out 1
            have hfz46_2 := blk_frozen BK149.out 2
            have hfz46_3 := blk_frozen BK149.out 3
            have hfz46_4 := blk_frozen BK149.out 4
            have hfz46_5 := blk_frozen BK149.out 5
            go_wp2
            go_meet
            case rel => exact ⟨_, (IntKind.u64.wrap (a0_3 - 1)), H', ⟨by have := HJ2.out; have := HJ14.out; have := HJ28.out; have := HJ33.out; first | omega | exact Nat.le_refl _⟩, ⟨by (with_reducible repeat (first | refine blk_drewN ?_ _ | refine blk_drew ?_ | refine blk_alloc ?_ _)); refine blk_far ?_ NB147_149.out _; (with_reducible repeat (first | refine blk_drewN ?_ _ | refine blk_drew ?_ | refine blk_alloc ?_ _)); exact BK147.out⟩, ⟨by (with_reducible repeat (first | refine blk_drewN ?_ _ | refine blk_drew ?_ | refine blk_alloc ?_ _)); refine blk_far ?_ NB148_149.out _; (with_reducible repeat (first | refine blk_drewN ?_ _ | refine blk_drew ?_ | refine blk_alloc ?_ _)); exact BK148.out⟩, ⟨by (with_reducible repeat (first | refine blk_drewN ?_ _ | refine blk_drew ?_ | refine blk_alloc ?_ _)); refine blk_put (cs := #[.int .u64 a0_0, .int .u64 a0_1, .int .u64 x150002_28, .int .u64 a0_3, .int .i64 a0_4, .int .i64 a0_5]) ?_ 3 _ rfl; (with_reducible repeat (first | refine blk_drewN ?_ _ | refine blk_drew ?_ | refine blk_alloc ?_ _)); exact BK149.out⟩, ⟨by repeat (first | (with_reducible first | exact HB.out | apply below_alloc | apply pw_below_drewN | apply below_drew1 | refine below_set ?_ GE147.out | refine below_set ?_ GE148.out | refine below_set ?_ GE149.out) | exact HB.out)⟩⟩
           ·replace c43 := Bool.eq_false_iff.mpr c43
            subst c43
            have H1 : (narrow_without.j4 kj33 (wrap64 (a1)) a0_0 a0_1 a0_2 a0_3 a0_4 a0_5 a0_0 a0_1 x150002_28 a0_3 a0_4 a0_5) = some (r1, r2, r3, r4, r5, r6, r7) := by rw [if_neg (show ¬ (false = true) by decide)] at H; exact H
            clear H
            have H := H1
            clear H1
            have H' := Aside0.mk H
            clear H
            go_wp2
            go_meet
            case rel => exact ⟨_, (a0_3), H', ⟨by have := HJ2.out; have := HJ14.out; have := HJ28.out; have := HJ33.out; first | omega | exact Nat.le_refl _⟩, ⟨by (with_reducible repeat (first | refine blk_drewN ?_ _ | refine blk_drew ?_ | refine blk_alloc ?_ _)); exact BK147.out⟩, ⟨by (with_reducible repeat (first | refine blk_drewN ?_ _ | refine blk_drew ?_ | refine blk_alloc ?_ _)); exact BK148.out⟩, ⟨by (with_reducible repeat (first | refine blk_drewN ?_ _ | refine blk_drew ?_ | refine blk_alloc ?_ _)); exact BK149.out⟩, ⟨by repeat (first | (with_reducible first | exact HB.out | apply below_alloc | apply pw_below_drewN | apply below_drew1 | refine below_set ?_ GE147.out | refine below_set ?_ GE148.out | refine below_set ?_ GE149.out) | exact HB.out)⟩⟩
          case rest =>
           clear HC42
           try clear c1
           try clear c2
           try clear p2
           try clear c3
           try clear c4
           try clear c6
           try clear c6b0
           try clear c6b1
           try clear p6
           try clear c7
           try clear c9
           try clear c10
           try clear c11
           try clear c12
           try clear c16
           try clear c19
           try clear c20
           try clear c22
           try clear c22b0
           try clear c22b1
           try clear c23
           try clear c24
           try clear c26
           try clear c27
           try clear c30
           try clear c31
           try clear c32
           try clear c35
           try clear c35b0
           try clear c35b1
           try clear c36
           try clear c37
           try clear c39
           try clear c40
           try clear c43
           try clear c44
           try clear c45
           try clear hcz10_0
           try clear hcz10_1
           try clear hcz10_2
           try clear hcz10_3
           try clear hcz10_4
           try clear hcz10_5
           try clear hcz13_0
           try clear hcz13_1
           try clear hcz13_2
           try clear hcz13_3
           try clear hcz13_4
           try clear hcz13_5
           try clear hcz14_0
           try clear hcz14_1
           try clear hcz14_2
           try clear hcz14_3
           try clear hcz14_4
           try clear hcz14_5
           try clear hcz17_0
           try clear hcz17_1
           try clear hcz17_2
           try clear hcz17_3
           try clear hcz17_4
           try clear hcz17_5
           try clear hcz21_0
           try clear hcz21_1
           try clear hcz21_2
           try clear hcz21_3
           try clear hcz21_4
           try clear hcz21_5
           try clear hcz25_0
           try clear hcz25_1
           try clear hcz25_2
           try clear hcz25_3
           try clear hcz25_4
           try clear hcz25_5
           try clear hcz28_0
           try clear hcz28_1
           try clear hcz28_2
           try clear hcz28_3
           try clear hcz28_4
           try clear hcz28_5
           try clear hcz33_0
           try clear hcz33_1
           try clear hcz33_2
           try clear hcz33_3
           try clear hcz33_4
           try clear hcz33_5
           try clear hcz38_0
           try clear hcz38_1
           try clear hcz38_2
           try clear hcz38_3
           try clear hcz38_4
           try clear hcz38_5
           try clear hcz41_0
           try clear hcz41_1
           try clear hcz41_2
           try clear hcz41_3
           try clear hcz41_4
           try clear hcz41_5
           try clear hcz46_0
           try clear hcz46_1
           try clear hcz46_2
           try clear hcz46_3
           try clear hcz46_4
           try clear hcz46_5
           try clear hcz8_0
           try clear hcz8_1
           try clear hcz8_2
           try clear hcz8_3
           try clear hcz8_4
           try clear hcz8_5
           try clear hfz10_0
           try clear hfz10_1
           try clear hfz10_2
           try clear hfz10_3
           try clear hfz10_4
           try clear hfz10_5
           try clear hfz13_0
           try clear hfz13_1
           try clear hfz13_2
           try clear hfz13_3
           try clear hfz13_4
           try clear hfz13_5
           try clear hfz14_0
           try clear hfz14_1
           try clear hfz14_2
           try clear hfz14_3
           try clear hfz14_4
           try clear hfz14_5
           try clear hfz17_0
           try clear hfz17_1
           try clear hfz17_2
           try clear hfz17_3
           try clear hfz17_4
           try clear hfz17_5
           try clear hfz21_0
           try clear hfz21_1
           try clear hfz21_2
           try clear hfz21_3
           try clear hfz21_4
           try clear hfz21_5
           try clear hfz25_0
           try clear hfz25_1
           try clear hfz25_2
           try clear hfz25_3
           try clear hfz25_4
           try clear hfz25_5
           try clear hfz28_0
           try clear hfz28_1
           try clear hfz28_2
           try clear hfz28_3
           try clear hfz28_4
           try clear hfz28_5
           try clear hfz33_0
           try clear hfz33_1
           try clear hfz33_2
           try clear hfz33_3
           try clear hfz33_4
           try clear hfz33_5
           try clear hfz38_0
           try clear hfz38_1
           try clear hfz38_2
           try clear hfz38_3
           try clear hfz38_4
           try clear hfz38_5
           try clear hfz41_0
           try clear hfz41_1
           try clear hfz41_2
           try clear hfz41_3
           try clear hfz41_4
           try clear hfz41_5
           try clear hfz46_0
           try clear hfz46_1
           try clear hfz46_2
           try clear hfz46_3
           try clear hfz46_4
           try clear hfz46_5
           try clear hfz8_0
           try clear hfz8_1
           try clear hfz8_2
           try clear hfz8_3
           try clear hfz8_4
           try clear hfz8_5
           try clear p2
           try clear p6
           obtain ⟨kq, x150003_41, HA, HJ41, BK147, BK148, BK149, HB⟩ := hcut
           cases kq with
           | zero => exact absurd HA.out (by simp [narrow_without.j4])
           | succ kj41 =>
            have H := HA.out
            clear HA
            simp only [narrow_without.j4] at H
            have HC47 := Aside0.mk H
            clear H
            go_upto_region 9 with (fail)
            go_cut [53] (fun v53 wc => ∃ (kq : Nat) (x53_46 : Bool), v53 = .bool x53_46 ∧ Aside0 (narrow_without.j5 kq (wrap64 (a1)) x53_46 a0_0 a0_1 a0_2 a0_3 a0_4 a0_5 a0_0 a0_1 x150002_28 x150003_41 a0_4 a0_5 = some (r1, r2, r3, r4, r5, r6, r7)) ∧ Aside0 (kq ≤ kj41) ∧ Aside0 (wc.heap[gb147]? = some (.cells #[.int .u64 a0_0, .int .u64 a0_1, .int .u64 a0_2, .int .u64 a0_3, .int .i64 a0_4, .int .i64 a0_5] 36 (0, 0))) ∧ Aside0 (wc.heap[gb148]? = some (.cells #[.int .u64 0, .int .u64 0, .int .u64 0, .int .u64 0, .int .i64 0, .int .i64 0] 36 (0, 0))) ∧ Aside0 (wc.heap[gb149]? = some (.cells #[.int .u64 a0_0, .int .u64 a0_1, .int .u64 x150002_28, .int .u64 x150003_41, .int .i64 a0_4, .int .i64 a0_5] 36 (0, 0))) ∧ Aside0 (Below w.heap.size w wc))
            case first =>
             have H := HC47.out
             clear HC47
             by_cases c48 : a0_4 = (wrap64 (a1))
             ·rw [if_pos c48] at H
              have c48b0 : (a0_4 == (wrap64 (a1))) = true := beq_iff_eq.mpr c48
              have c48b1 : (a0_4 != (wrap64 (a1))) = false := bne_eq_false_iff_eq.mpr c48
              clear c48
              (first | rw [c48b0] | (simp only [i64_w, i32_w]; rw [c48b0]) | skip)
              have H' := Aside0.mk H
              clear H
              have hnb49 := NB147_148.out
              have hnc49 := NB148_147.out
              have hnb50 := NB147_149.out
              have hnc50 := NB149_147.out
              have hcz51_0 : wc.cell? ⟨gb147, 0, none⟩ = some (.int .u64 a0_0) := (blk_cell BK147.out 0).trans rfl
              have hcz51_1 : wc.cell? ⟨gb147, 1, none⟩ = some (.int .u64 a0_1) := (blk_cell BK147.out 1).trans rfl
              have hcz51_2 : wc.cell? ⟨gb147, 2, none⟩ = some (.int .u64 a0_2) := (blk_cell BK147.out 2).trans rfl
              have hcz51_3 : wc.cell? ⟨gb147, 3, none⟩ = some (.int .u64 a0_3) := (blk_cell BK147.out 3).trans rfl
              have hcz51_4 : wc.cell? ⟨gb147, 4, none⟩ = some (.int .i64 a0_4) := (blk_cell BK147.out 4).trans rfl
              have hcz51_5 : wc.cell? ⟨gb147, 5, none⟩ = some (.int .i64 a0_5) := (blk_cell BK147.out 5).trans rfl
              have hfz51_0 := blk_frozen BK147.out 0
              have hfz51_1 := blk_frozen BK147.out 1
              have hfz51_2 := blk_frozen BK147.out 2
              have hfz51_3 := blk_frozen BK147.out 3
              have hfz51_4 := blk_frozen BK147.out 4
              have hfz51_5 := blk_frozen BK147.out 5
              go_wp2
              go_meet
              case rel => exact ⟨_, (decide ((wrap64 (a1)) < 9223372036854775807)), (by first | rfl | (simp; done) | (simp [*]; done)), H', ⟨by have := HJ2.out; have := HJ14.out; have := HJ28.out; have := HJ33.out; have := HJ41.out; first | omega | exact Nat.le_refl _⟩, ⟨by (with_reducible repeat (first | refine blk_drewN ?_ _ | refine blk_drew ?_ | refine blk_alloc ?_ _)); exact BK147.out⟩, ⟨by (with_reducible repeat (first | refine blk_drewN ?_ _ | refine blk_drew ?_ | refine blk_alloc ?_ _)); exact BK148.out⟩, ⟨by (with_reducible repeat (first | refine blk_drewN ?_ _ | refine blk_drew ?_ | refine blk_alloc ?_ _)); exact BK149.out⟩, ⟨by repeat (first | (with_reducible first | exact HB.out | apply below_alloc | apply pw_below_drewN | apply below_drew1 | refine below_set ?_ GE147.out | refine below_set ?_ GE148.out | refine below_set ?_ GE149.out) | exact HB.out)⟩⟩
             ·rw [if_neg c48] at H
              have c48b0 : (a0_4 == (wrap64 (a1))) = false := beq_eq_false_iff_ne.mpr c48
              have c48b1 : (a0_4 != (wrap64 (a1))) = true := bne_iff_ne.mpr c48
              (first | rw [c48b0] | (simp only [i64_w, i32_w]; rw [c48b0]) | skip)
              have H' := Aside0.mk H
              clear H
              have hnb52 := NB147_148.out
              have hnc52 := NB148_147.out
              have hnb53 := NB147_149.out
              have hnc53 := NB149_147.out
              have hcz54_0 : wc.cell? ⟨gb147, 0, none⟩ = some (.int .u64 a0_0) := (blk_cell BK147.out 0).trans rfl
              have hcz54_1 : wc.cell? ⟨gb147, 1, none⟩ = some (.int .u64 a0_1) := (blk_cell BK147.out 1).trans rfl
              have hcz54_2 : wc.cell? ⟨gb147, 2, none⟩ = some (.int .u64 a0_2) := (blk_cell BK147.out 2).trans rfl
              have hcz54_3 : wc.cell? ⟨gb147, 3, none⟩ = some (.int .u64 a0_3) := (blk_cell BK147.out 3).trans rfl
              have hcz54_4 : wc.cell? ⟨gb147, 4, none⟩ = some (.int .i64 a0_4) := (blk_cell BK147.out 4).trans rfl
              have hcz54_5 : wc.cell? ⟨gb147, 5, none⟩ = some (.int .i64 a0_5) := (blk_cell BK147.out 5).trans rfl
              have hfz54_0 := blk_frozen BK147.out 0
              have hfz54_1 := blk_frozen BK147.out 1
              have hfz54_2 := blk_frozen BK147.out 2
              have hfz54_3 := blk_frozen BK147.out 3
              have hfz54_4 := blk_frozen BK147.out 4
              have hfz54_5 := blk_frozen BK147.out 5
              go_wp2
              go_meet
              case rel => exact ⟨_, (false), (by first | rfl | (simp; done) | (simp [*]; done)), H', ⟨by have := HJ2.out; have := HJ14.out; have := HJ28.out; have := HJ33.out; have := HJ41.out; first | omega | exact Nat.le_refl _⟩, ⟨by (with_reducible repeat (first | refine blk_drewN ?_ _ | refine blk_drew ?_ | refine blk_alloc ?_ _)); exact BK147.out⟩, ⟨by (with_reducible repeat (first | refine blk_drewN ?_ _ | refine blk_drew ?_ | refine blk_alloc ?_ _)); exact BK148.out⟩, ⟨by (with_reducible repeat (first | refine blk_drewN ?_ _ | refine blk_drew ?_ | refine blk_alloc ?_ _)); exact BK149.out⟩, ⟨by repeat (first | (with_reducible first | exact HB.out | apply below_alloc | apply pw_below_drewN | apply below_drew1 | refine below_set ?_ GE147.out | refine below_set ?_ GE148.out | refine below_set ?_ GE149.out) | exact HB.out)⟩⟩
            case rest =>
             clear HC47
             try clear c1
             try clear c2
             try clear p2
             try clear c3
             try clear c4
             try clear c5
             try clear c6
             try clear c6b0
             try clear c6b1
             try clear p6
             try clear c7
             try clear c9
             try clear c10
             try clear c11
             try clear c12
             try clear c16
             try clear c19
             try clear c20
             try clear c22
             try clear c22b0
             try clear c22b1
             try clear c23
             try clear c24
             try clear c26
             try clear c27
             try clear c30
             try clear c31
             try clear c32
             try clear c35
             try clear c35b0
             try clear c35b1
             try clear c36
             try clear c37
             try clear c39
             try clear c40
             try clear c43
             try clear c44
             try clear c45
             try clear c48
             try clear c48b0
             try clear c48b1
             try clear c49
             try clear c50
             try clear c52
             try clear c53
             try clear hcz10_0
             try clear hcz10_1
             try clear hcz10_2
             try clear hcz10_3
             try clear hcz10_4
             try clear hcz10_5
             try clear hcz13_0
             try clear hcz13_1
             try clear hcz13_2
             try clear hcz13_3
             try clear hcz13_4
             try clear hcz13_5
             try clear hcz14_0
             try clear hcz14_1
             try clear hcz14_2
             try clear hcz14_3
             try clear hcz14_4
             try clear hcz14_5
             try clear hcz17_0
             try clear hcz17_1
             try clear hcz17_2
             try clear hcz17_3
             try clear hcz17_4
             try clear hcz17_5
             try clear hcz21_0
             try clear hcz21_1
             try clear hcz21_2
             try clear hcz21_3
             try clear hcz21_4
             try clear hcz21_5
             try clear hcz25_0
             try clear hcz25_1
             try clear hcz25_2
             try clear hcz25_3
             try clear hcz25_4
             try clear hcz25_5
             try clear hcz28_0
             try clear hcz28_1
             try clear hcz28_2
             try clear hcz28_3
             try clear hcz28_4
             try clear hcz28_5
             try clear hcz33_0
             try clear hcz33_1
             try clear hcz33_2
             try clear hcz33_3
             try clear hcz33_4
             try clear hcz33_5
             try clear hcz38_0
             try clear hcz38_1
             try clear hcz38_2
             try clear hcz38_3
             try clear hcz38_4
             try clear hcz38_5
             try clear hcz41_0
             try clear hcz41_1
             try clear hcz41_2
             try clear hcz41_3
             try clear hcz41_4
             try clear hcz41_5
             try clear hcz46_0
             try clear hcz46_1
             try clear hcz46_2
             try clear hcz46_3
             try clear hcz46_4
             try clear hcz46_5
             try clear hcz51_0
             try clear hcz51_1
             try clear hcz51_2
             try clear hcz51_3
             try clear hcz51_4
             try clear hcz51_5
             try clear hcz54_0
             try clear hcz54_1
             try clear hcz54_2
             try clear hcz54_3
             try clear hcz54_4
             try clear hcz54_5
             try clear hcz8_0
             try clear hcz8_1
             try clear hcz8_2
             try clear hcz8_3
             try clear hcz8_4
             try clear hcz8_5
             try clear hfz10_0
             try clear hfz10_1
             try clear hfz10_2
             try clear hfz10_3
             try clear hfz10_4
             try clear hfz10_5
             try clear hfz13_0
             try clear hfz13_1
             try clear hfz13_2
             try clear hfz13_3
             try clear hfz13_4
             try clear hfz13_5
             try clear hfz14_0
             try clear hfz14_1
             try clear hfz14_2
             try clear hfz14_3
             try clear hfz14_4
             try clear hfz14_5
             try clear hfz17_0
             try clear hfz17_1
             try clear hfz17_2
             try clear hfz17_3
             try clear hfz17_4
             try clear hfz17_5
             try clear hfz21_0
             try clear hfz21_1
             try clear hfz21_2
             try clear hfz21_3
             try clear hfz21_4
             try clear hfz21_5
             try clear hfz25_0
             try clear hfz25_1
             try clear hfz25_2
             try clear hfz25_3
             try clear hfz25_4
             try clear hfz25_5
             try clear hfz28_0
             try clear hfz28_1
             try clear hfz28_2
             try clear hfz28_3
             try clear hfz28_4
             try clear hfz28_5
             try clear hfz33_0
             try clear hfz33_1
             try clear hfz33_2
             try clear hfz33_3
             try clear hfz33_4
             try clear hfz33_5
             try clear hfz38_0
             try clear hfz38_1
             try clear hfz38_2
             try clear hfz38_3
             try clear hfz38_4
             try clear hfz38_5
             try clear hfz41_0
             try clear hfz41_1
             try clear hfz41_2
             try clear hfz41_3
             try clear hfz41_4
             try clear hfz41_5
             try clear hfz46_0
             try clear hfz46_1
             try clear hfz46_2
             try clear hfz46_3
             try clear hfz46_4
             try clear hfz46_5
             try clear hfz51_0
             try clear hfz51_1
             try clear hfz51_2
             try clear hfz51_3
             try clear hfz51_4
             try clear hfz51_5
             try clear hfz54_0
             try clear hfz54_1
             try clear hfz54_2
             try clear hfz54_3
             try clear hfz54_4
             try clear hfz54_5
             try clear hfz8_0
             try clear hfz8_1
             try clear hfz8_2
             try clear hfz8_3
             try clear hfz8_4
             try clear hfz8_5
             try clear p2
             try clear p6
             obtain ⟨kq, x53_46, rfl, HA, HJ46, BK147, BK148, BK149, HB⟩ := hcut
             cases kq with
             | zero => exact absurd HA.out (by simp [narrow_without.j5])
             | succ kj46 =>
              have H := HA.out
              clear HA
              simp only [narrow_without.j5] at H
              by_cases c55 : x53_46 = true
              ·subst c55
               have H1 : (if a0_5 = (wrap64 (a1)) then (if (wrap64 (a1)) > (-9223372036854775808) then (some (a0_0, a0_1, x150002_28, x150003_41, wrap64 (a0_4 + 1), wrap64 (a0_5 - 1), true)) else (some (a0_0, a0_1, x150002_28, x150003_41, wrap64 (a0_4 + 1), a0_5, true))) else (some (a0_0, a0_1, x150002_28, x150003_41, wrap64 (a0_4 + 1), a0_5, true))) = some (r1, r2, r3, r4, r5, r6, r7) := by rw [if_pos rfl] at H; exact H
               clear H
               have H := H1
               clear H1
               by_cases c56 : a0_5 = (wrap64 (a1))
               ·rw [if_pos c56] at H
                have c56b0 : (a0_5 == (wrap64 (a1))) = true := beq_iff_eq.mpr c56
                have c56b1 : (a0_5 != (wrap64 (a1))) = false := bne_eq_false_iff_eq.mpr c56
                clear c56
                by_cases c57 : (wrap64 (a1)) > (-9223372036854775808)
                ·rw [if_pos c57] at H
                 have c57b0 : decide ((-9223372036854775808) < (wrap64 (a1))) = true := decide_eq_true c57
                 clear c57
                 simp only [Option.some.injEq, Prod.mk.injEq] at H
                 obtain ⟨rfl, rfl, rfl, rfl, rfl, rfl, rfl⟩ := H
                 have hnb58 := NB149_147.out
                 have hnc58 := NB147_149.out
                 have hnb59 := NB149_148.out
                 have hnc59 := NB148_149.out
                 have hcz60_0 : wc.cell? ⟨gb149, 0, none⟩ = some (.int .u64 a0_0) := (blk_cell BK149.out 0).trans rfl
                 have hcz60_1 : wc.cell? ⟨gb149, 1, none⟩ = some (.int .u64 a0_1) := (blk_cell BK149.out 1).trans rfl
                 have hcz60_2 : wc.cell? ⟨gb149, 2, none⟩ = some (.int .u64 x150002_28) := (blk_cell BK149.out 2).trans rfl
                 have hcz60_3 : wc.cell? ⟨gb149, 3, none⟩ = some (.int .u64 x150003_41) := (blk_cell BK149.out 3).trans rfl
                 have hcz60_4 : wc.cell? ⟨gb149, 4, none⟩ = some (.int .i64 a0_4) := (blk_cell BK149.out 4).trans rfl
                 have hcz60_5 : wc.cell? ⟨gb149, 5, none⟩ = some (.int .i64 a0_5) := (blk_cell BK149.out 5).trans rfl
                 have hfz60_0 := blk_frozen BK149.out 0
                 have hfz60_1 := blk_frozen BK149.out 1
                 have hfz60_2 := blk_frozen BK149.out 2
                 have hfz60_3 := blk_frozen BK149.out 3
                 have hfz60_4 := blk_frozen BK149.out 4
                 have hfz60_5 := blk_frozen BK149.out 5
                 have hnb61 := NB147_148.out
                 have hnc61 := NB148_147.out
                 have hcz62_0 : wc.cell? ⟨gb147, 0, none⟩ = some (.int .u64 a0_0) := (blk_cell BK147.out 0).trans rfl
                 have hcz62_1 : wc.cell? ⟨gb147, 1, none⟩ = some (.int .u64 a0_1) := (blk_cell BK147.out 1).trans rfl
                 have hcz62_2 : wc.cell? ⟨gb147, 2, none⟩ = some (.int .u64 a0_2) := (blk_cell BK147.out 2).trans rfl
                 have hcz62_3 : wc.cell? ⟨gb147, 3, none⟩ = some (.int .u64 a0_3) := (blk_cell BK147.out 3).trans rfl
                 have hcz62_4 : wc.cell? ⟨gb147, 4, none⟩ = some (.int .i64 a0_4) := (blk_cell BK147.out 4).trans rfl
                 have hcz62_5 : wc.cell? ⟨gb147, 5, none⟩ = some (.int .i64 a0_5) := (blk_cell BK147.out 5).trans rfl
                 have hfz62_0 := blk_frozen BK147.out 0
                 have hfz62_1 := blk_frozen BK147.out 1
                 have hfz62_2 := blk_frozen BK147.out 2
                 have hfz62_3 := blk_frozen BK147.out 3
                 have hfz62_4 := blk_frozen BK147.out 4
                 have hfz62_5 := blk_frozen BK147.out 5
                 have hcz63_0 : wc.cell? ⟨gb148, 0, none⟩ = some (.int .u64 0) := (blk_cell BK148.out 0).trans rfl
                 have hcz63_1 : wc.cell? ⟨gb148, 1, none⟩ = some (.int .u64 0) := (blk_cell BK148.out 1).trans rfl
                 have hcz63_2 : wc.cell? ⟨gb148, 2, none⟩ = some (.int .u64 0) := (blk_cell BK148.out 2).trans rfl
                 have hcz63_3 : wc.cell? ⟨gb148, 3, none⟩ = some (.int .u64 0) := (blk_cell BK148.out 3).trans rfl
                 have hcz63_4 : wc.cell? ⟨gb148, 4, none⟩ = some (.int .i64 0) := (blk_cell BK148.out 4).trans rfl
                 have hcz63_5 : wc.cell? ⟨gb148, 5, none⟩ = some (.int .i64 0) := (blk_cell BK148.out 5).trans rfl
                 have hfz63_0 := blk_frozen BK148.out 0
                 have hfz63_1 := blk_frozen BK148.out 1
                 have hfz63_2 := blk_frozen BK148.out 2
                 have hfz63_3 := blk_frozen BK148.out 3
                 have hfz63_4 := blk_frozen BK148.out 4
                 have hfz63_5 := blk_frozen BK148.out 5
                 go_wp2
                 refine bodyPost_ret (results_ct rfl _ _ gb148 36 #[.int .u64 a0_0, .int .u64 a0_1, .int .u64 x150002_28, .int .u64 x150003_41, .int .i64 (wrap64 (a0_4 + 1)), .int .i64 (wrap64 (a0_5 - 1))] (0, 0) _ rfl (by (with_reducible repeat (first | refine blk_drewN ?_ _ | refine blk_drew ?_ | refine blk_alloc ?_ _)); refine blk_put (cs := #[.int .u64 a0_0, .int .u64 a0_1, .int .u64 x150002_28, .int .u64 x150003_41, .int .i64 (wrap64 (a0_4 + 1)), .int .i64 0]) ?_ 5 _ rfl; (with_reducible repeat (first | refine blk_drewN ?_ _ | refine blk_drew ?_ | refine blk_alloc ?_ _)); refine blk_put (cs := #[.int .u64 a0_0, .int .u64 a0_1, .int .u64 x150002_28, .int .u64 x150003_41, .int .i64 0, .int .i64 0]) ?_ 4 _ rfl; (with_reducible repeat (first | refine blk_drewN ?_ _ | refine blk_drew ?_ | refine blk_alloc ?_ _)); refine blk_put (cs := #[.int .u64 a0_0, .int .u64 a0_1, .int .u64 x150002_28, .int .u64 0, .int .i64 0, .int .i64 0]) ?_ 3 _ rfl; (with_reducible repeat (first | refine blk_drewN ?_ _ | refine blk_drew ?_ | refine blk_alloc ?_ _)); refine blk_put (cs := #[.int .u64 a0_0, .int .u64 a0_1, .int .u64 0, .int .u64 0, .int .i64 0, .int .i64 0]) ?_ 2 _ rfl; (with_reducible repeat (first | refine blk_drewN ?_ _ | refine blk_drew ?_ | refine blk_alloc ?_ _)); refine blk_put (cs := #[.int .u64 a0_0, .int .u64 0, .int .u64 0, .int .u64 0, .int .i64 0, .int .i64 0]) ?_ 1 _ rfl; (with_reducible repeat (first | refine blk_drewN ?_ _ | refine blk_drew ?_ | refine blk_alloc ?_ _)); refine blk_put (cs := #[.int .u64 0, .int .u64 0, .int .u64 0, .int .u64 0, .int .i64 0, .int .i64 0]) ?_ 0 _ rfl; (with_reducible repeat (first | refine blk_drewN ?_ _ | refine blk_drew ?_ | refine blk_alloc ?_ _)); refine blk_far ?_ NB148_149.out _; (with_reducible repeat (first | refine blk_drewN ?_ _ | refine blk_drew ?_ | refine blk_alloc ?_ _)); refine blk_far ?_ NB148_149.out _; (with_reducible repeat (first | refine blk_drewN ?_ _ | refine blk_drew ?_ | refine blk_alloc ?_ _)); exact BK148.out) Try.underlying36 rfl (by kernel_rfl)) rfl ?_
                 exact ⟨by first | rfl | (simp [errW_none, errW_some] <;> rfl) | (simp [*, errW_none, errW_some] <;> rfl), by repeat (first | (with_reducible first | exact HB.out | apply below_alloc | apply pw_below_drewN | apply below_drew1 | refine below_set ?_ GE147.out | refine below_set ?_ GE148.out | refine below_set ?_ GE149.out) | exact HB.out)⟩
                ·rw [if_neg c57] at H
                 have c57b0 : decide ((-9223372036854775808) < (wrap64 (a1))) = false := decide_eq_false c57
                 clear c57
                 simp only [Option.some.injEq, Prod.mk.injEq] at H
                 obtain ⟨rfl, rfl, rfl, rfl, rfl, rfl, rfl⟩ := H
                 have hnb64 := NB149_147.out
                 have hnc64 := NB147_149.out
                 have hnb65 := NB149_148.out
                 have hnc65 := NB148_149.out
                 have hcz66_0 : wc.cell? ⟨gb149, 0, none⟩ = some (.int .u64 a0_0) := (blk_cell BK149.out 0).trans rfl
                 have hcz66_1 : wc.cell? ⟨gb149, 1, none⟩ = some (.int .u64 a0_1) := (blk_cell BK149.out 1).trans rfl
                 have hcz66_2 : wc.cell? ⟨gb149, 2, none⟩ = some (.int .u64 x150002_28) := (blk_cell BK149.out 2).trans rfl
                 have hcz66_3 : wc.cell? ⟨gb149, 3, none⟩ = some (.int .u64 x150003_41) := (blk_cell BK149.out 3).trans rfl
                 have hcz66_4 : wc.cell? ⟨gb149, 4, none⟩ = some (.int .i64 a0_4) := (blk_cell BK149.out 4).trans rfl
                 have hcz66_5 : wc.cell? ⟨gb149, 5, none⟩ = some (.int .i64 a0_5) := (blk_cell BK149.out 5).trans rfl
                 have hfz66_0 := blk_frozen BK149.out 0
                 have hfz66_1 := blk_frozen BK149.out 1
                 have hfz66_2 := blk_frozen BK149.out 2
                 have hfz66_3 := blk_frozen BK149.out 3
                 have hfz66_4 := blk_frozen BK149.out 4
                 have hfz66_5 := blk_frozen BK149.out 5
                 have hnb67 := NB147_148.out
                 have hnc67 := NB148_147.out
                 have hcz68_0 : wc.cell? ⟨gb147, 0, none⟩ = some (.int .u64 a0_0) := (blk_cell BK147.out 0).trans rfl
                 have hcz68_1 : wc.cell? ⟨gb147, 1, none⟩ = some (.int .u64 a0_1) := (blk_cell BK147.out 1).trans rfl
                 have hcz68_2 : wc.cell? ⟨gb147, 2, none⟩ = some (.int .u64 a0_2) := (blk_cell BK147.out 2).trans rfl
                 have hcz68_3 : wc.cell? ⟨gb147, 3, none⟩ = some (.int .u64 a0_3) := (blk_cell BK147.out 3).trans rfl
                 have hcz68_4 : wc.cell? ⟨gb147, 4, none⟩ = some (.int .i64 a0_4) := (blk_cell BK147.out 4).trans rfl
                 have hcz68_5 : wc.cell? ⟨gb147, 5, none⟩ = some (.int .i64 a0_5) := (blk_cell BK147.out 5).trans rfl
                 have hfz68_0 := blk_frozen BK147.out 0
                 have hfz68_1 := blk_frozen BK147.out 1
                 have hfz68_2 := blk_frozen BK147.out 2
                 have hfz68_3 := blk_frozen BK147.out 3
                 have hfz68_4 := blk_frozen BK147.out 4
                 have hfz68_5 := blk_frozen BK147.out 5
                 have hcz69_0 : wc.cell? ⟨gb148, 0, none⟩ = some (.int .u64 0) := (blk_cell BK148.out 0).trans rfl
                 have hcz69_1 : wc.cell? ⟨gb148, 1, none⟩ = some (.int .u64 0) := (blk_cell BK148.out 1).trans rfl
                 have hcz69_2 : wc.cell? ⟨gb148, 2, none⟩ = some (.int .u64 0) := (blk_cell BK148.out 2).trans rfl
                 have hcz69_3 : wc.cell? ⟨gb148, 3, none⟩ = some (.int .u64 0) := (blk_cell BK148.out 3).trans rfl
                 have hcz69_4 : wc.cell? ⟨gb148, 4, none⟩ = some (.int .i64 0) := (blk_cell BK148.out 4).trans rfl
                 have hcz69_5 : wc.cell? ⟨gb148, 5, none⟩ = some (.int .i64 0) := (blk_cell BK148.out 5).trans rfl
                 have hfz69_0 := blk_frozen BK148.out 0
                 have hfz69_1 := blk_frozen BK148.out 1
                 have hfz69_2 := blk_frozen BK148.out 2
                 have hfz69_3 := blk_frozen BK148.out 3
                 have hfz69_4 := blk_frozen BK148.out 4
                 have hfz69_5 := blk_frozen BK148.out 5
                 go_wp2
                 refine bodyPost_ret (results_ct rfl _ _ gb148 36 #[.int .u64 a0_0, .int .u64 a0_1, .int .u64 x150002_28, .int .u64 x150003_41, .int .i64 (wrap64 (a0_4 + 1)), .int .i64 a0_5] (0, 0) _ rfl (by (with_reducible repeat (first | refine blk_drewN ?_ _ | refine blk_drew ?_ | refine blk_alloc ?_ _)); refine blk_put (cs := #[.int .u64 a0_0, .int .u64 a0_1, .int .u64 x150002_28, .int .u64 x150003_41, .int .i64 (wrap64 (a0_4 + 1)), .int .i64 0]) ?_ 5 _ rfl; (with_reducible repeat (first | refine blk_drewN ?_ _ | refine blk_drew ?_ | refine blk_alloc ?_ _)); refine blk_put (cs := #[.int .u64 a0_0, .int .u64 a0_1, .int .u64 x150002_28, .int .u64 x150003_41, .int .i64 0, .int .i64 0]) ?_ 4 _ rfl; (with_reducible repeat (first | refine blk_drewN ?_ _ | refine blk_drew ?_ | refine blk_alloc ?_ _)); refine blk_put (cs := #[.int .u64 a0_0, .int .u64 a0_1, .int .u64 x150002_28, .int .u64 0, .int .i64 0, .int .i64 0]) ?_ 3 _ rfl; (with_reducible repeat (first | refine blk_drewN ?_ _ | refine blk_drew ?_ | refine blk_alloc ?_ _)); refine blk_put (cs := #[.int .u64 a0_0, .int .u64 a0_1, .int .u64 0, .int .u64 0, .int .i64 0, .int .i64 0]) ?_ 2 _ rfl; (with_reducible repeat (first | refine blk_drewN ?_ _ | refine blk_drew ?_ | refine blk_alloc ?_ _)); refine blk_put (cs := #[.int .u64 a0_0, .int .u64 0, .int .u64 0, .int .u64 0, .int .i64 0, .int .i64 0]) ?_ 1 _ rfl; (with_reducible repeat (first | refine blk_drewN ?_ _ | refine blk_drew ?_ | refine blk_alloc ?_ _)); refine blk_put (cs := #[.int .u64 0, .int .u64 0, .int .u64 0, .int .u64 0, .int .i64 0, .int .i64 0]) ?_ 0 _ rfl; (with_reducible repeat (first | refine blk_drewN ?_ _ | refine blk_drew ?_ | refine blk_alloc ?_ _)); refine blk_far ?_ NB148_149.out _; (with_reducible repeat (first | refine blk_drewN ?_ _ | refine blk_drew ?_ | refine blk_alloc ?_ _)); exact BK148.out) Try.underlying36 rfl (by kernel_rfl)) rfl ?_
                 exact ⟨by first | rfl | (simp [errW_none, errW_some] <;> rfl) | (simp [*, errW_none, errW_some] <;> rfl), by repeat (first | (with_reducible first | exact HB.out | apply below_alloc | apply pw_below_drewN | apply below_drew1 | refine below_set ?_ GE147.out | refine below_set ?_ GE148.out | refine below_set ?_ GE149.out) | exact HB.out)⟩
               ·rw [if_neg c56] at H
                have c56b0 : (a0_5 == (wrap64 (a1))) = false := beq_eq_false_iff_ne.mpr c56
                have c56b1 : (a0_5 != (wrap64 (a1))) = true := bne_iff_ne.mpr c56
                simp only [Option.some.injEq, Prod.mk.injEq] at H
                obtain ⟨rfl, rfl, rfl, rfl, rfl, rfl, rfl⟩ := H
                have hnb70 := NB149_147.out
                have hnc70 := NB147_149.out
                have hnb71 := NB149_148.out
                have hnc71 := NB148_149.out
                have hcz72_0 : wc.cell? ⟨gb149, 0, none⟩ = some (.int .u64 a0_0) := (blk_cell BK149.out 0).trans rfl
                have hcz72_1 : wc.cell? ⟨gb149, 1, none⟩ = some (.int .u64 a0_1) := (blk_cell BK149.out 1).trans rfl
                have hcz72_2 : wc.cell? ⟨gb149, 2, none⟩ = some (.int .u64 x150002_28) := (blk_cell BK149.out 2).trans rfl
                have hcz72_3 : wc.cell? ⟨gb149, 3, none⟩ = some (.int .u64 x150003_41) := (blk_cell BK149.out 3).trans rfl
                have hcz72_4 : wc.cell? ⟨gb149, 4, none⟩ = some (.int .i64 a0_4) := (blk_cell BK149.out 4).trans rfl
                have hcz72_5 : wc.cell? ⟨gb149, 5, none⟩ = some (.int .i64 a0_5) := (blk_cell BK149.out 5).trans rfl
                have hfz72_0 := blk_frozen BK149.out 0
                have hfz72_1 := blk_frozen BK149.out 1
                have hfz72_2 := blk_frozen BK149.out 2
                have hfz72_3 := blk_frozen BK149.out 3
                have hfz72_4 := blk_frozen BK149.out 4
                have hfz72_5 := blk_frozen BK149.out 5
                have hnb73 := NB147_148.out
                have hnc73 := NB148_147.out
                have hcz74_0 : wc.cell? ⟨gb147, 0, none⟩ = some (.int .u64 a0_0) := (blk_cell BK147.out 0).trans rfl
                have hcz74_1 : wc.cell? ⟨gb147, 1, none⟩ = some (.int .u64 a0_1) := (blk_cell BK147.out 1).trans rfl
                have hcz74_2 : wc.cell? ⟨gb147, 2, none⟩ = some (.int .u64 a0_2) := (blk_cell BK147.out 2).trans rfl
                have hcz74_3 : wc.cell? ⟨gb147, 3, none⟩ = some (.int .u64 a0_3) := (blk_cell BK147.out 3).trans rfl
                have hcz74_4 : wc.cell? ⟨gb147, 4, none⟩ = some (.int .i64 a0_4) := (blk_cell BK147.out 4).trans rfl
                have hcz74_5 : wc.cell? ⟨gb147, 5, none⟩ = some (.int .i64 a0_5) := (blk_cell BK147.out 5).trans rfl
                have hfz74_0 := blk_frozen BK147.out 0
                have hfz74_1 := blk_frozen BK147.out 1
                have hfz74_2 := blk_frozen BK147.out 2
                have hfz74_3 := blk_frozen BK147.out 3
                have hfz74_4 := blk_frozen BK147.out 4
                have hfz74_5 := blk_frozen BK147.out 5
                have hcz75_0 : wc.cell? ⟨gb148, 0, none⟩ = some (.int .u64 0) := (blk_cell BK148.out 0).trans rfl
                have hcz75_1 : wc.cell? ⟨gb148, 1, none⟩ = some (.int .u64 0) := (blk_cell BK148.out 1).trans rfl
                have hcz75_2 : wc.cell? ⟨gb148, 2, none⟩ = some (.int .u64 0) := (blk_cell BK148.out 2).trans rfl
                have hcz75_3 : wc.cell? ⟨gb148, 3, none⟩ = some (.int .u64 0) := (blk_cell BK148.out 3).trans rfl
                have hcz75_4 : wc.cell? ⟨gb148, 4, none⟩ = some (.int .i64 0) := (blk_cell BK148.out 4).trans rfl
                have hcz75_5 : wc.cell? ⟨gb148, 5, none⟩ = some (.int .i64 0) := (blk_cell BK148.out 5).trans rfl
                have hfz75_0 := blk_frozen BK148.out 0
                have hfz75_1 := blk_frozen BK148.out 1
                have hfz75_2 := blk_frozen BK148.out 2
                have hfz75_3 := blk_frozen BK148.out 3
                have hfz75_4 := blk_frozen BK148.out 4
                have hfz75_5 := blk_frozen BK148.out 5
                go_wp2
                refine bodyPost_ret (results_ct rfl _ _ gb148 36 #[.int .u64 a0_0, .int .u64 a0_1, .int .u64 x150002_28, .int .u64 x150003_41, .int .i64 (wrap64 (a0_4 + 1)), .int .i64 a0_5] (0, 0) _ rfl (by (with_reducible repeat (first | refine blk_drewN ?_ _ | refine blk_drew ?_ | refine blk_alloc ?_ _)); refine blk_put (cs := #[.int .u64 a0_0, .int .u64 a0_1, .int .u64 x150002_28, .int .u64 x150003_41, .int .i64 (wrap64 (a0_4 + 1)), .int .i64 0]) ?_ 5 _ rfl; (with_reducible repeat (first | refine blk_drewN ?_ _ | refine blk_drew ?_ | refine blk_alloc ?_ _)); refine blk_put (cs := #[.int .u64 a0_0, .int .u64 a0_1, .int .u64 x150002_28, .int .u64 x150003_41, .int .i64 0, .int .i64 0]) ?_ 4 _ rfl; (with_reducible repeat (first | refine blk_drewN ?_ _ | refine blk_drew ?_ | refine blk_alloc ?_ _)); refine blk_put (cs := #[.int .u64 a0_0, .int .u64 a0_1, .int .u64 x150002_28, .int .u64 0, .int .i64 0, .int .i64 0]) ?_ 3 _ rfl; (with_reducible repeat (first | refine blk_drewN ?_ _ | refine blk_drew ?_ | refine blk_alloc ?_ _)); refine blk_put (cs := #[.int .u64 a0_0, .int .u64 a0_1, .int .u64 0, .int .u64 0, .int .i64 0, .int .i64 0]) ?_ 2 _ rfl; (with_reducible repeat (first | refine blk_drewN ?_ _ | refine blk_drew ?_ | refine blk_alloc ?_ _)); refine blk_put (cs := #[.int .u64 a0_0, .int .u64 0, .int .u64 0, .int .u64 0, .int .i64 0, .int .i64 0]) ?_ 1 _ rfl; (with_reducible repeat (first | refine blk_drewN ?_ _ | refine blk_drew ?_ | refine blk_alloc ?_ _)); refine blk_put (cs := #[.int .u64 0, .int .u64 0, .int .u64 0, .int .u64 0, .int .i64 0, .int .i64 0]) ?_ 0 _ rfl; (with_reducible repeat (first | refine blk_drewN ?_ _ | refine blk_drew ?_ | refine blk_alloc ?_ _)); refine blk_far ?_ NB148_149.out _; (with_reducible repeat (first | refine blk_drewN ?_ _ | refine blk_drew ?_ | refine blk_alloc ?_ _)); exact BK148.out) Try.underlying36 rfl (by kernel_rfl)) rfl ?_
                exact ⟨by first | rfl | (simp [errW_none, errW_some] <;> rfl) | (simp [*, errW_none, errW_some] <;> rfl), by repeat (first | (with_reducible first | exact HB.out | apply below_alloc | apply pw_below_drewN | apply below_drew1 | refine below_set ?_ GE147.out | refine below_set ?_ GE148.out | refine below_set ?_ GE149.out) | exact HB.out)⟩
              ·replace c55 := Bool.eq_false_iff.mpr c55
               subst c55
               have H1 : (if a0_5 = (wrap64 (a1)) then (if (wrap64 (a1)) > (-9223372036854775808) then (some (a0_0, a0_1, x150002_28, x150003_41, a0_4, wrap64 (a0_5 - 1), true)) else (some (a0_0, a0_1, x150002_28, x150003_41, a0_4, a0_5, true))) else (some (a0_0, a0_1, x150002_28, x150003_41, a0_4, a0_5, true))) = some (r1, r2, r3, r4, r5, r6, r7) := by rw [if_neg (show ¬ (false = true) by decide)] at H; exact H
               clear H
               have H := H1
               clear H1
               by_cases c76 : a0_5 = (wrap64 (a1))
               ·rw [if_pos c76] at H
                have c76b0 : (a0_5 == (wrap64 (a1))) = true := beq_iff_eq.mpr c76
                have c76b1 : (a0_5 != (wrap64 (a1))) = false := bne_eq_false_iff_eq.mpr c76
                clear c76
                by_cases c77 : (wrap64 (a1)) > (-9223372036854775808)
                ·rw [if_pos c77] at H
                 have c77b0 : decide ((-9223372036854775808) < (wrap64 (a1))) = true := decide_eq_true c77
                 clear c77
                 simp only [Option.some.injEq, Prod.mk.injEq] at H
                 obtain ⟨rfl, rfl, rfl, rfl, rfl, rfl, rfl⟩ := H
                 have hnb78 := NB147_148.out
                 have hnc78 := NB148_147.out
                 have hnb79 := NB147_149.out
                 have hnc79 := NB149_147.out
                 have hcz80_0 : wc.cell? ⟨gb147, 0, none⟩ = some (.int .u64 a0_0) := (blk_cell BK147.out 0).trans rfl
                 have hcz80_1 : wc.cell? ⟨gb147, 1, none⟩ = some (.int .u64 a0_1) := (blk_cell BK147.out 1).trans rfl
                 have hcz80_2 : wc.cell? ⟨gb147, 2, none⟩ = some (.int .u64 a0_2) := (blk_cell BK147.out 2).trans rfl
                 have hcz80_3 : wc.cell? ⟨gb147, 3, none⟩ = some (.int .u64 a0_3) := (blk_cell BK147.out 3).trans rfl
                 have hcz80_4 : wc.cell? ⟨gb147, 4, none⟩ = some (.int .i64 a0_4) := (blk_cell BK147.out 4).trans rfl
                 have hcz80_5 : wc.cell? ⟨gb147, 5, none⟩ = some (.int .i64 a0_5) := (blk_cell BK147.out 5).trans rfl
                 have hfz80_0 := blk_frozen BK147.out 0
                 have hfz80_1 := blk_frozen BK147.out 1
                 have hfz80_2 := blk_frozen BK147.out 2
                 have hfz80_3 := blk_frozen BK147.out 3
                 have hfz80_4 := blk_frozen BK147.out 4
                 have hfz80_5 := blk_frozen BK147.out 5
                 have hnb81 := NB149_148.out
                 have hnc81 := NB148_149.out
                 have hcz82_0 : wc.cell? ⟨gb149, 0, none⟩ = some (.int .u64 a0_0) := (blk_cell BK149.out 0).trans rfl
                 have hcz82_1 : wc.cell? ⟨gb149, 1, none⟩ = some (.int .u64 a0_1) := (blk_cell BK149.out 1).trans rfl
                 have hcz82_2 : wc.cell? ⟨gb149, 2, none⟩ = some (.int .u64 x150002_28) := (blk_cell BK149.out 2).trans rfl
                 have hcz82_3 : wc.cell? ⟨gb149, 3, none⟩ = some (.int .u64 x150003_41) := (blk_cell BK149.out 3).trans rfl
                 have hcz82_4 : wc.cell? ⟨gb149, 4, none⟩ = some (.int .i64 a0_4) := (blk_cell BK149.out 4).trans rfl
                 have hcz82_5 : wc.cell? ⟨gb149, 5, none⟩ = some (.int .i64 a0_5) := (blk_cell BK149.out 5).trans rfl
                 have hfz82_0 := blk_frozen BK149.out 0
                 have hfz82_1 := blk_frozen BK149.out 1
                 have hfz82_2 := blk_frozen BK149.out 2
                 have hfz82_3 := blk_frozen BK149.out 3
                 have hfz82_4 := blk_frozen BK149.out 4
                 have hfz82_5 := blk_frozen BK149.out 5
                 have hcz83_0 : wc.cell? ⟨gb148, 0, none⟩ = some (.int .u64 0) := (blk_cell BK148.out 0).trans rfl
                 have hcz83_1 : wc.cell? ⟨gb148, 1, none⟩ = some (.int .u64 0) := (blk_cell BK148.out 1).trans rfl
                 have hcz83_2 : wc.cell? ⟨gb148, 2, none⟩ = some (.int .u64 0) := (blk_cell BK148.out 2).trans rfl
                 have hcz83_3 : wc.cell? ⟨gb148, 3, none⟩ = some (.int .u64 0) := (blk_cell BK148.out 3).trans rfl
                 have hcz83_4 : wc.cell? ⟨gb148, 4, none⟩ = some (.int .i64 0) := (blk_cell BK148.out 4).trans rfl
                 have hcz83_5 : wc.cell? ⟨gb148, 5, none⟩ = some (.int .i64 0) := (blk_cell BK148.out 5).trans rfl
                 have hfz83_0 := blk_frozen BK148.out 0
                 have hfz83_1 := blk_frozen BK148.out 1
                 have hfz83_2 := blk_frozen BK148.out 2
                 have hfz83_3 := blk_frozen BK148.out 3
                 have hfz83_4 := blk_frozen BK148.out 4
                 have hfz83_5 := blk_frozen BK148.out 5
                 go_wp2
                 refine bodyPost_ret (results_ct rfl _ _ gb148 36 #[.int .u64 a0_0, .int .u64 a0_1, .int .u64 x150002_28, .int .u64 x150003_41, .int .i64 a0_4, .int .i64 (wrap64 (a0_5 - 1))] (0, 0) _ rfl (by (with_reducible repeat (first | refine blk_drewN ?_ _ | refine blk_drew ?_ | refine blk_alloc ?_ _)); refine blk_put (cs := #[.int .u64 a0_0, .int .u64 a0_1, .int .u64 x150002_28, .int .u64 x150003_41, .int .i64 a0_4, .int .i64 0]) ?_ 5 _ rfl; (with_reducible repeat (first | refine blk_drewN ?_ _ | refine blk_drew ?_ | refine blk_alloc ?_ _)); refine blk_put (cs := #[.int .u64 a0_0, .int .u64 a0_1, .int .u64 x150002_28, .int .u64 x150003_41, .int .i64 0, .int .i64 0]) ?_ 4 _ rfl; (with_reducible repeat (first | refine blk_drewN ?_ _ | refine blk_drew ?_ | refine blk_alloc ?_ _)); refine blk_put (cs := #[.int .u64 a0_0, .int .u64 a0_1, .int .u64 x150002_28, .int .u64 0, .int .i64 0, .int .i64 0]) ?_ 3 _ rfl; (with_reducible repeat (first | refine blk_drewN ?_ _ | refine blk_drew ?_ | refine blk_alloc ?_ _)); refine blk_put (cs := #[.int .u64 a0_0, .int .u64 a0_1, .int .u64 0, .int .u64 0, .int .i64 0, .int .i64 0]) ?_ 2 _ rfl; (with_reducible repeat (first | refine blk_drewN ?_ _ | refine blk_drew ?_ | refine blk_alloc ?_ _)); refine blk_put (cs := #[.int .u64 a0_0, .int .u64 0, .int .u64 0, .int .u64 0, .int .i64 0, .int .i64 0]) ?_ 1 _ rfl; (with_reducible repeat (first | refine blk_drewN ?_ _ | refine blk_drew ?_ | refine blk_alloc ?_ _)); refine blk_put (cs := #[.int .u64 0, .int .u64 0, .int .u64 0, .int .u64 0, .int .i64 0, .int .i64 0]) ?_ 0 _ rfl; (with_reducible repeat (first | refine blk_drewN ?_ _ | refine blk_drew ?_ | refine blk_alloc ?_ _)); refine blk_far ?_ NB148_149.out _; (with_reducible repeat (first | refine blk_drewN ?_ _ | refine blk_drew ?_ | refine blk_alloc ?_ _)); exact BK148.out) Try.underlying36 rfl (by kernel_rfl)) rfl ?_
                 exact ⟨by first | rfl | (simp [errW_none, errW_some] <;> rfl) | (simp [*, errW_none, errW_some] <;> rfl), by repeat (first | (with_reducible first | exact HB.out | apply below_alloc | apply pw_below_drewN | apply below_drew1 | refine below_set ?_ GE147.out | refine below_set ?_ GE148.out | refine below_set ?_ GE149.out) | exact HB.out)⟩
                ·rw [if_neg c77] at H
                 have c77b0 : decide ((-9223372036854775808) < (wrap64 (a1))) = false := decide_eq_false c77
                 clear c77
                 simp only [Option.some.injEq, Prod.mk.injEq] at H
                 obtain ⟨rfl, rfl, rfl, rfl, rfl, rfl, rfl⟩ := H
                 have hnb84 := NB147_148.out
                 have hnc84 := NB148_147.out
                 have hnb85 := NB147_149.out
                 have hnc85 := NB149_147.out
                 have hcz86_0 : wc.cell? ⟨gb147, 0, none⟩ = some (.int .u64 a0_0) := (blk_cell BK147.out 0).trans rfl
                 have hcz86_1 : wc.cell? ⟨gb147, 1, none⟩ = some (.int .u64 a0_1) := (blk_cell BK147.out 1).trans rfl
                 have hcz86_2 : wc.cell? ⟨gb147, 2, none⟩ = some (.int .u64 a0_2) := (blk_cell BK147.out 2).trans rfl
                 have hcz86_3 : wc.cell? ⟨gb147, 3, none⟩ = some (.int .u64 a0_3) := (blk_cell BK147.out 3).trans rfl
                 have hcz86_4 : wc.cell? ⟨gb147, 4, none⟩ = some (.int .i64 a0_4) := (blk_cell BK147.out 4).trans rfl
                 have hcz86_5 : wc.cell? ⟨gb147, 5, none⟩ = some (.int .i64 a0_5) := (blk_cell BK147.out 5).trans rfl
                 have hfz86_0 := blk_frozen BK147.out 0
                 have hfz86_1 := blk_frozen BK147.out 1
                 have hfz86_2 := blk_frozen BK147.out 2
                 have hfz86_3 := blk_frozen BK147.out 3
                 have hfz86_4 := blk_frozen BK147.out 4
                 have hfz86_5 := blk_frozen BK147.out 5
                 have hnb87 := NB149_148.out
                 have hnc87 := NB148_149.out
                 have hcz88_0 : wc.cell? ⟨gb149, 0, none⟩ = some (.int .u64 a0_0) := (blk_cell BK149.out 0).trans rfl
                 have hcz88_1 : wc.cell? ⟨gb149, 1, none⟩ = some (.int .u64 a0_1) := (blk_cell BK149.out 1).trans rfl
                 have hcz88_2 : wc.cell? ⟨gb149, 2, none⟩ = some (.int .u64 x150002_28) := (blk_cell BK149.out 2).trans rfl
                 have hcz88_3 : wc.cell? ⟨gb149, 3, none⟩ = some (.int .u64 x150003_41) := (blk_cell BK149.out 3).trans rfl
                 have hcz88_4 : wc.cell? ⟨gb149, 4, none⟩ = some (.int .i64 a0_4) := (blk_cell BK149.out 4).trans rfl
                 have hcz88_5 : wc.cell? ⟨gb149, 5, none⟩ = some (.int .i64 a0_5) := (blk_cell BK149.out 5).trans rfl
                 have hfz88_0 := blk_frozen BK149.out 0
                 have hfz88_1 := blk_frozen BK149.out 1
                 have hfz88_2 := blk_frozen BK149.out 2
                 have hfz88_3 := blk_frozen BK149.out 3
                 have hfz88_4 := blk_frozen BK149.out 4
                 have hfz88_5 := blk_frozen BK149.out 5
                 have hcz89_0 : wc.cell? ⟨gb148, 0, none⟩ = some (.int .u64 0) := (blk_cell BK148.out 0).trans rfl
                 have hcz89_1 : wc.cell? ⟨gb148, 1, none⟩ = some (.int .u64 0) := (blk_cell BK148.out 1).trans rfl
                 have hcz89_2 : wc.cell? ⟨gb148, 2, none⟩ = some (.int .u64 0) := (blk_cell BK148.out 2).trans rfl
                 have hcz89_3 : wc.cell? ⟨gb148, 3, none⟩ = some (.int .u64 0) := (blk_cell BK148.out 3).trans rfl
                 have hcz89_4 : wc.cell? ⟨gb148, 4, none⟩ = some (.int .i64 0) := (blk_cell BK148.out 4).trans rfl
                 have hcz89_5 : wc.cell? ⟨gb148, 5, none⟩ = some (.int .i64 0) := (blk_cell BK148.out 5).trans rfl
                 have hfz89_0 := blk_frozen BK148.out 0
                 have hfz89_1 := blk_frozen BK148.out 1
                 have hfz89_2 := blk_frozen BK148.out 2
                 have hfz89_3 := blk_frozen BK148.out 3
                 have hfz89_4 := blk_frozen BK148.out 4
                 have hfz89_5 := blk_frozen BK148.out 5
                 go_wp2
                 refine bodyPost_ret (results_ct rfl _ _ gb148 36 #[.int .u64 a0_0, .int .u64 a0_1, .int .u64 x150002_28, .int .u64 x150003_41, .int .i64 a0_4, .int .i64 a0_5] (0, 0) _ rfl (by (with_reducible repeat (first | refine blk_drewN ?_ _ | refine blk_drew ?_ | refine blk_alloc ?_ _)); refine blk_put (cs := #[.int .u64 a0_0, .int .u64 a0_1, .int .u64 x150002_28, .int .u64 x150003_41, .int .i64 a0_4, .int .i64 0]) ?_ 5 _ rfl; (with_reducible repeat (first | refine blk_drewN ?_ _ | refine blk_drew ?_ | refine blk_alloc ?_ _)); refine blk_put (cs := #[.int .u64 a0_0, .int .u64 a0_1, .int .u64 x150002_28, .int .u64 x150003_41, .int .i64 0, .int .i64 0]) ?_ 4 _ rfl; (with_reducible repeat (first | refine blk_drewN ?_ _ | refine blk_drew ?_ | refine blk_alloc ?_ _)); refine blk_put (cs := #[.int .u64 a0_0, .int .u64 a0_1, .int .u64 x150002_28, .int .u64 0, .int .i64 0, .int .i64 0]) ?_ 3 _ rfl; (with_reducible repeat (first | refine blk_drewN ?_ _ | refine blk_drew ?_ | refine blk_alloc ?_ _)); refine blk_put (cs := #[.int .u64 a0_0, .int .u64 a0_1, .int .u64 0, .int .u64 0, .int .i64 0, .int .i64 0]) ?_ 2 _ rfl; (with_reducible repeat (first | refine blk_drewN ?_ _ | refine blk_drew ?_ | refine blk_alloc ?_ _)); refine blk_put (cs := #[.int .u64 a0_0, .int .u64 0, .int .u64 0, .int .u64 0, .int .i64 0, .int .i64 0]) ?_ 1 _ rfl; (with_reducible repeat (first | refine blk_drewN ?_ _ | refine blk_drew ?_ | refine blk_alloc ?_ _)); refine blk_put (cs := #[.int .u64 0, .int .u64 0, .int .u64 0, .int .u64 0, .int .i64 0, .int .i64 0]) ?_ 0 _ rfl; (with_reducible repeat (first | refine blk_drewN ?_ _ | refine blk_drew ?_ | refine blk_alloc ?_ _)); exact BK148.out) Try.underlying36 rfl (by kernel_rfl)) rfl ?_
                 exact ⟨by first | rfl | (simp [errW_none, errW_some] <;> rfl) | (simp [*, errW_none, errW_some] <;> rfl), by repeat (first | (with_reducible first | exact HB.out | apply below_alloc | apply pw_below_drewN | apply below_drew1 | refine below_set ?_ GE147.out | refine below_set ?_ GE148.out | refine below_set ?_ GE149.out) | exact HB.out)⟩
               ·rw [if_neg c76] at H
                have c76b0 : (a0_5 == (wrap64 (a1))) = false := beq_eq_false_iff_ne.mpr c76
                have c76b1 : (a0_5 != (wrap64 (a1))) = true := bne_iff_ne.mpr c76
                simp only [Option.some.injEq, Prod.mk.injEq] at H
                obtain ⟨rfl, rfl, rfl, rfl, rfl, rfl, rfl⟩ := H
                have hnb90 := NB147_148.out
                have hnc90 := NB148_147.out
                have hnb91 := NB147_149.out
                have hnc91 := NB149_147.out
                have hcz92_0 : wc.cell? ⟨gb147, 0, none⟩ = some (.int .u64 a0_0) := (blk_cell BK147.out 0).trans rfl
                have hcz92_1 : wc.cell? ⟨gb147, 1, none⟩ = some (.int .u64 a0_1) := (blk_cell BK147.out 1).trans rfl
                have hcz92_2 : wc.cell? ⟨gb147, 2, none⟩ = some (.int .u64 a0_2) := (blk_cell BK147.out 2).trans rfl
                have hcz92_3 : wc.cell? ⟨gb147, 3, none⟩ = some (.int .u64 a0_3) := (blk_cell BK147.out 3).trans rfl
                have hcz92_4 : wc.cell? ⟨gb147, 4, none⟩ = some (.int .i64 a0_4) := (blk_cell BK147.out 4).trans rfl
                have hcz92_5 : wc.cell? ⟨gb147, 5, none⟩ = some (.int .i64 a0_5) := (blk_cell BK147.out 5).trans rfl
                have hfz92_0 := blk_frozen BK147.out 0
                have hfz92_1 := blk_frozen BK147.out 1
                have hfz92_2 := blk_frozen BK147.out 2
                have hfz92_3 := blk_frozen BK147.out 3
                have hfz92_4 := blk_frozen BK147.out 4
                have hfz92_5 := blk_frozen BK147.out 5
                have hnb93 := NB149_148.out
                have hnc93 := NB148_149.out
                have hcz94_0 : wc.cell? ⟨gb149, 0, none⟩ = some (.int .u64 a0_0) := (blk_cell BK149.out 0).trans rfl
                have hcz94_1 : wc.cell? ⟨gb149, 1, none⟩ = some (.int .u64 a0_1) := (blk_cell BK149.out 1).trans rfl
                have hcz94_2 : wc.cell? ⟨gb149, 2, none⟩ = some (.int .u64 x150002_28) := (blk_cell BK149.out 2).trans rfl
                have hcz94_3 : wc.cell? ⟨gb149, 3, none⟩ = some (.int .u64 x150003_41) := (blk_cell BK149.out 3).trans rfl
                have hcz94_4 : wc.cell? ⟨gb149, 4, none⟩ = some (.int .i64 a0_4) := (blk_cell BK149.out 4).trans rfl
                have hcz94_5 : wc.cell? ⟨gb149, 5, none⟩ = some (.int .i64 a0_5) := (blk_cell BK149.out 5).trans rfl
                have hfz94_0 := blk_frozen BK149.out 0
                have hfz94_1 := blk_frozen BK149.out 1
                have hfz94_2 := blk_frozen BK149.out 2
                have hfz94_3 := blk_frozen BK149.out 3
                have hfz94_4 := blk_frozen BK149.out 4
                have hfz94_5 := blk_frozen BK149.out 5
                have hcz95_0 : wc.cell? ⟨gb148, 0, none⟩ = some (.int .u64 0) := (blk_cell BK148.out 0).trans rfl
                have hcz95_1 : wc.cell? ⟨gb148, 1, none⟩ = some (.int .u64 0) := (blk_cell BK148.out 1).trans rfl
                have hcz95_2 : wc.cell? ⟨gb148, 2, none⟩ = some (.int .u64 0) := (blk_cell BK148.out 2).trans rfl
                have hcz95_3 : wc.cell? ⟨gb148, 3, none⟩ = some (.int .u64 0) := (blk_cell BK148.out 3).trans rfl
                have hcz95_4 : wc.cell? ⟨gb148, 4, none⟩ = some (.int .i64 0) := (blk_cell BK148.out 4).trans rfl
                have hcz95_5 : wc.cell? ⟨gb148, 5, none⟩ = some (.int .i64 0) := (blk_cell BK148.out 5).trans rfl
                have hfz95_0 := blk_frozen BK148.out 0
                have hfz95_1 := blk_frozen BK148.out 1
                have hfz95_2 := blk_frozen BK148.out 2
                have hfz95_3 := blk_frozen BK148.out 3
                have hfz95_4 := blk_frozen BK148.out 4
                have hfz95_5 := blk_frozen BK148.out 5
                go_wp2
                refine bodyPost_ret (results_ct rfl _ _ gb148 36 #[.int .u64 a0_0, .int .u64 a0_1, .int .u64 x150002_28, .int .u64 x150003_41, .int .i64 a0_4, .int .i64 a0_5] (0, 0) _ rfl (by (with_reducible repeat (first | refine blk_drewN ?_ _ | refine blk_drew ?_ | refine blk_alloc ?_ _)); refine blk_put (cs := #[.int .u64 a0_0, .int .u64 a0_1, .int .u64 x150002_28, .int .u64 x150003_41, .int .i64 a0_4, .int .i64 0]) ?_ 5 _ rfl; (with_reducible repeat (first | refine blk_drewN ?_ _ | refine blk_drew ?_ | refine blk_alloc ?_ _)); refine blk_put (cs := #[.int .u64 a0_0, .int .u64 a0_1, .int .u64 x150002_28, .int .u64 x150003_41, .int .i64 0, .int .i64 0]) ?_ 4 _ rfl; (with_reducible repeat (first | refine blk_drewN ?_ _ | refine blk_drew ?_ | refine blk_alloc ?_ _)); refine blk_put (cs := #[.int .u64 a0_0, .int .u64 a0_1, .int .u64 x150002_28, .int .u64 0, .int .i64 0, .int .i64 0]) ?_ 3 _ rfl; (with_reducible repeat (first | refine blk_drewN ?_ _ | refine blk_drew ?_ | refine blk_alloc ?_ _)); refine blk_put (cs := #[.int .u64 a0_0, .int .u64 a0_1, .int .u64 0, .int .u64 0, .int .i64 0, .int .i64 0]) ?_ 2 _ rfl; (with_reducible repeat (first | refine blk_drewN ?_ _ | refine blk_drew ?_ | refine blk_alloc ?_ _)); refine blk_put (cs := #[.int .u64 a0_0, .int .u64 0, .int .u64 0, .int .u64 0, .int .i64 0, .int .i64 0]) ?_ 1 _ rfl; (with_reducible repeat (first | refine blk_drewN ?_ _ | refine blk_drew ?_ | refine blk_alloc ?_ _)); refine blk_put (cs := #[.int .u64 0, .int .u64 0, .int .u64 0, .int .u64 0, .int .i64 0, .int .i64 0]) ?_ 0 _ rfl; (with_reducible repeat (first | refine blk_drewN ?_ _ | refine blk_drew ?_ | refine blk_alloc ?_ _)); exact BK148.out) Try.underlying36 rfl (by kernel_rfl)) rfl ?_
                exact ⟨by first | rfl | (simp [errW_none, errW_some] <;> rfl) | (simp [*, errW_none, errW_some] <;> rfl), by repeat (first | (with_reducible first | exact HB.out | apply below_alloc | apply pw_below_drewN | apply below_drew1 | refine below_set ?_ GE147.out | refine below_set ?_ GE148.out | refine below_set ?_ GE149.out) | exact HB.out)⟩

end Go.Proofs.Ytdojdjafleaedaa.PNarrowSound
