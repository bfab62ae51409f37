/- Functions of the program that some laws reach, as Lean functions, and proofs that the program's calls come to what they say: written by a program, for the texts that import it; each theorem bears its own conditions. -/
import Derived.Test.YtkgmdcibjjkhlaaVPU
import Derived.Test.YtkgmdcibjjkhlaaPXferSoundx0
import Derived.Test.YtkgmdcibjjkhlaaPXferSoundx1
import Derived.Test.YtkgmdcibjjkhlaaPXferSoundx2
namespace Go.Proofs.Ytkgmdcibjjkhlaa.PXferSound
open Go.RowKit Go.Proofs.YtkgmdcibjjkhlaaW.PrintWords Go.Proofs.YtkgmdcibjjkhlaaW.PrintLast Go.Proofs.YtkgmdcibjjkhlaaW.PrintMore
attribute [local go_sem] max2_int min2_int max_two min_two max_three min_three max_four min_four   -- for this text's walks alone
set_option linter.unusedVariables false
set_option linter.unusedSimpArgs false

/-! ### num_Refine: function 20 -/
/-- What is told where nothing is had. -/
def num_none : Option (Int × Int × Int × Int × Int × Int × Bool) := (num_All.f).bind fun z => some (z.1, z.2.1, z.2.2.1, z.2.2.2.1, z.2.2.2.2.1, z.2.2.2.2.2, false)
def num_Refine.l0 : Nat → Int → Int → Int → Int → Int → Int → Int → Option (Int × Int × Int × Int × Int × Int × Bool)
 | 0, _, _, _, _, _, _, _ => none
 | k + 1, i, s0, s1, s2, s3, s4, s5 => if i < 2 then (num_known_round.f s0 s1 s2 s3 s4 s5).bind fun t => (if t.1 = true then num_Refine.l0 k (wrap64 (i + 1)) t.2.1 t.2.2.1 t.2.2.2.1 t.2.2.2.2.1 t.2.2.2.2.2.1 t.2.2.2.2.2.2 else num_none) else some (s0, s1, s2, s3, s4, s5, true)
def num_Refine.f (a0_0 : Int) (a0_1 : Int) (a0_2 : Int) (a0_3 : Int) (a0_4 : Int) (a0_5 : Int) : Option (Int × Int × Int × Int × Int × Int × Bool) := num_Refine.l0 3 0 a0_0 a0_1 a0_2 a0_3 a0_4 a0_5
set_option maxHeartbeats 8000000 in
set_option maxRecDepth 100000 in
theorem num_Refine.calls (a0_0 : Int) (a0_1 : Int) (a0_2 : Int) (a0_3 : Int) (a0_4 : Int) (a0_5 : Int) (r1 : Int) (r2 : Int) (r3 : Int) (r4 : Int) (r5 : Int) (r6 : Int) (r7 : Bool) (w : World) (h : num_Refine.f a0_0 a0_1 a0_2 a0_3 a0_4 a0_5 = some (r1, r2, r3, r4, r5, r6, r7)) :
  Calls Try.prog 20 #[.agg #[.int .u64 a0_0, .int .u64 a0_1, .int .u64 a0_2, .int .u64 a0_3, .int .i64 a0_4, .int .i64 a0_5]] w fun e w' => e = .returned (.tuple #[.agg #[.int .u64 r1, .int .u64 r2, .int .u64 r3, .int .u64 r4, .int .i64 r5, .int .i64 r6], .bool r7]) ∧ Below w.heap.size w w' := by
 have hu26 := Try.underlying26
 have hu67 := Try.underlying67
 have H' : Aside0 (num_Refine.l0 3 0 a0_0 a0_1 a0_2 a0_3 a0_4 a0_5 = some (r1, r2, r3, r4, r5, r6, r7)) := ⟨h⟩
 clear h
 go_enter Try.func20, Try.ntmps20
 go_wp2_with (first | ((with_reducible refine gate_dst (N := 1) rfl ?_); refine box_event ?hg (N := 1) ?hd (cs := #[.int .u64 a0_0, .int .u64 a0_1, .int .u64 a0_2, .int .u64 a0_3, .int .i64 a0_4, .int .i64 a0_5]) (t := 26) ?hr ?_; (case hd => rfl); (case hg => rfl); (case hr => first | (go_simp; done) | (go_simp; rfl)); intro g1 hg1_ w1 hx1 hb1; have hg1 := Aside0.mk hg1_; clear hg1_) | ((with_reducible refine gate_dst (N := 2) rfl ?_); refine box_event ?hg (N := 2) ?hd (cs := #[.int .u64 0, .int .u64 0, .int .u64 0, .int .u64 0, .int .i64 0, .int .i64 0]) (t := 26) ?hr ?_; (case hd => rfl); (case hg => rfl); (case hr => first | (go_simp; done) | (go_simp; rfl)); intro g2 hg2_ w2 hx2 hb2; have hg2 := Aside0.mk hg2_; clear hg2_; have hx1' := blk_below hx1 hb2; have hxc0 : w2.cell? ⟨g1, 0, none⟩ = some (.int .u64 a0_0) := (blk_cell hx1' 0).trans rfl; have hxc1 : w2.cell? ⟨g1, 1, none⟩ = some (.int .u64 a0_1) := (blk_cell hx1' 1).trans rfl; have hxc2 : w2.cell? ⟨g1, 2, none⟩ = some (.int .u64 a0_2) := (blk_cell hx1' 2).trans rfl; have hxc3 : w2.cell? ⟨g1, 3, none⟩ = some (.int .u64 a0_3) := (blk_cell hx1' 3).trans rfl; have hxc4 : w2.cell? ⟨g1, 4, none⟩ = some (.int .i64 a0_4) := (blk_cell hx1' 4).trans rfl; have hxc5 : w2.cell? ⟨g1, 5, none⟩ = some (.int .i64 a0_5) := (blk_cell hx1' 5).trans rfl) | ((with_reducible refine gate_dst (N := 7) rfl ?_); refine box_event ?hg (N := 7) ?hd (cs := #[.int .u64 a0_0, .int .u64 a0_1, .int .u64 a0_2, .int .u64 a0_3, .int .i64 a0_4, .int .i64 a0_5]) (t := 67) ?hr ?_; (case hd => rfl); (case hg => rfl); (case hr => first | (go_simp; done) | (go_simp; rfl)); intro g3 hg3_ w3 hx3 hb3; have hg3 := Aside0.mk hg3_; clear hg3_; have hx2' := blk_below hx2 hb3))
 have HB2 := below_step hb1 hb2
 have HB := Aside0.mk (below_step HB2 hb3)
 have HI : Aside0 (IsS67 w w3 g3 a0_0 a0_1 a0_2 a0_3 a0_4 a0_5) := ⟨⟨hx3, by rw [hg3.out]; exact HB2.size⟩⟩
 have HG2 : Aside0 (w.heap.size ≤ g2 ∧ g2 ≠ g3) := ⟨by rw [hg2.out]; exact hb1.size, by rw [hg3.out]; exact Nat.ne_of_lt (blk_lt hx2)⟩
 have BK2 := Aside0.mk hx2'
 clear hb1 hb2 hb3 HB2 hx1 hx2 hx3 hx1' hx2' hg1 hg2 hg3 hxc0 hxc1 hxc2 hxc3 hxc4 hxc5
 go_loopg [8] 3 (fun kq v8 w' => ∃ (i : Int) (s0 : Int) (s1 : Int) (s2 : Int) (s3 : Int) (s4 : Int) (s5 : Int), v8 = .int .i64 i ∧ Aside0 (num_Refine.l0 kq i s0 s1 s2 s3 s4 s5 = some (r1, r2, r3, r4, r5, r6, r7)) ∧ Aside0 (kq ≤ 3) ∧ Aside0 (w'.heap[g2]? = some (.cells #[.int .u64 0, .int .u64 0, .int .u64 0, .int .u64 0, .int .i64 0, .int .i64 0] 26 (0, 0))) ∧ Aside0 (IsS67 w w' g3 s0 s1 s2 s3 s4 s5) ∧ Aside0 (Below w.heap.size w w'))
 case atStart => exact ⟨0, a0_0, a0_1, a0_2, a0_3, a0_4, a0_5, rfl, H', ⟨Nat.le_refl _⟩, BK2, HI, HB⟩
 case round =>
  clear H' BK2 HI HB
  obtain ⟨i, s0, s1, s2, s3, s4, s5, rfl, HA, HK1, BK2, HI, HB⟩ := hrel
  cases gk with
  | zero => exact absurd HA.out (by simp [num_Refine.l0])
  | succ k1 =>
   have H := HA.out
   clear HA
   rw [num_Refine.l0] at H
   obtain ⟨c0, c1, c2, c3, c4, c5⟩ := num_cells HI.out
   have z := BK2.out
   by_cases c : i < 2
   ·rw [if_pos c] at H
    have cb : decide (i < 2) = true := decide_eq_true c
    obtain ⟨⟨t1, t2, t3, t4, t5, t6, t7⟩, hr, H⟩ := Option.bind_eq_some_iff.mp H
    have H := Aside0.mk H
    have HR := Aside0.mk hr
    clear hr c
    go_wp2_with fail
    with_reducible refine (num_known_round.calls g3 _ _ _ _ _ _ t1 t2 t3 t4 t5 t6 t7 w _ HI.out HB.out HR.out).mono ?_
    rintro e w4 ⟨rfl, hI, hB, hK⟩
    have z4 : w4.heap[g2]? = some (.cells #[.int .u64 0, .int .u64 0, .int .u64 0, .int .u64 0, .int .i64 0, .int .i64 0] 26 (0, 0)) := (hK.2 g2 (blk_lt z) HG2.out.2 (by simp)).trans z
    clear z BK2 HI HB hK c0 c1 c2 c3 c4 c5
    cases t1 with
    | true =>
     have H' := Aside0.mk (show num_Refine.l0 k1 (wrap64 (i + 1)) t2 t3 t4 t5 t6 t7 = some (r1, r2, r3, r4, r5, r6, r7) from (if_pos rfl).symm.trans H.out)
     go_wp2
     go_roundg k1
     case measure => have := HK1.out; omega
     case rel => exact ⟨wrap64 (i + 1), t2, t3, t4, t5, t6, t7, rfl, H', ⟨by have := HK1.out; omega⟩, ⟨z4⟩, ⟨hI⟩, ⟨hB⟩⟩
    | false =>
     have H2 : num_none = some (r1, r2, r3, r4, r5, r6, r7) := (if_neg (by decide)).symm.trans H.out
     unfold num_none at H2
     obtain ⟨⟨z1, z2, z3, z4', z5, z6⟩, hA, H2⟩ := Option.bind_eq_some_iff.mp H2
     simp only [Option.some.injEq, Prod.mk.injEq] at H2
     obtain ⟨rfl, rfl, rfl, rfl, rfl, rfl, rfl⟩ := H2
     have HA := Aside0.mk hA
     clear hA H
     go_wp2_with fail
     with_reducible refine (num_All.calls _ _ _ _ _ _ _ HA.out).mono ?_
     rintro e w5 ⟨rfl, hb5⟩
     have z5w := blk_below z4 hb5
     have hzc0 : w5.cell? ⟨g2, 0, none⟩ = some (.int .u64 0) := (blk_cell z5w 0).trans rfl; have hzf0 := blk_frozen z5w 0; have hzc1 : w5.cell? ⟨g2, 1, none⟩ = some (.int .u64 0) := (blk_cell z5w 1).trans rfl; have hzf1 := blk_frozen z5w 1; have hzc2 : w5.cell? ⟨g2, 2, none⟩ = some (.int .u64 0) := (blk_cell z5w 2).trans rfl; have hzf2 := blk_frozen z5w 2; have hzc3 : w5.cell? ⟨g2, 3, none⟩ = some (.int .u64 0) := (blk_cell z5w 3).trans rfl; have hzf3 := blk_frozen z5w 3; have hzc4 : w5.cell? ⟨g2, 4, none⟩ = some (.int .i64 0) := (blk_cell z5w 4).trans rfl; have hzf4 := blk_frozen z5w 4; have hzc5 : w5.cell? ⟨g2, 5, none⟩ = some (.int .i64 0) := (blk_cell z5w 5).trans rfl; have hzf5 := blk_frozen z5w 5
     have HB5 := below_step hB hb5
     clear z4 hI hB hb5
     go_wp2
     refine bodyPost_ret (results_ct rfl _ _ g2 26 #[.int .u64 z1, .int .u64 z2, .int .u64 z3, .int .u64 z4', .int .i64 z5, .int .i64 z6] (0, 0) _ rfl (by (with_reducible repeat (first | refine blk_drewN ?_ _ | refine blk_drew ?_ | refine blk_alloc ?_ _)); refine blk_put (cs := #[.int .u64 z1, .int .u64 z2, .int .u64 z3, .int .u64 z4', .int .i64 z5, .int .i64 0]) ?_ 5 _ rfl; (with_reducible repeat (first | refine blk_drewN ?_ _ | refine blk_drew ?_ | refine blk_alloc ?_ _)); refine blk_put (cs := #[.int .u64 z1, .int .u64 z2, .int .u64 z3, .int .u64 z4', .int .i64 0, .int .i64 0]) ?_ 4 _ rfl; (with_reducible repeat (first | refine blk_drewN ?_ _ | refine blk_drew ?_ | refine blk_alloc ?_ _)); refine blk_put (cs := #[.int .u64 z1, .int .u64 z2, .int .u64 z3, .int .u64 0, .int .i64 0, .int .i64 0]) ?_ 3 _ rfl; (with_reducible repeat (first | refine blk_drewN ?_ _ | refine blk_drew ?_ | refine blk_alloc ?_ _)); refine blk_put (cs := #[.int .u64 z1, .int .u64 z2, .int .u64 0, .int .u64 0, .int .i64 0, .int .i64 0]) ?_ 2 _ rfl; (with_reducible repeat (first | refine blk_drewN ?_ _ | refine blk_drew ?_ | refine blk_alloc ?_ _)); refine blk_put (cs := #[.int .u64 z1, .int .u64 0, .int .u64 0, .int .u64 0, .int .i64 0, .int .i64 0]) ?_ 1 _ rfl; (with_reducible repeat (first | refine blk_drewN ?_ _ | refine blk_drew ?_ | refine blk_alloc ?_ _)); refine blk_put (cs := #[.int .u64 0, .int .u64 0, .int .u64 0, .int .u64 0, .int .i64 0, .int .i64 0]) ?_ 0 _ rfl; (with_reducible repeat (first | refine blk_drewN ?_ _ | refine blk_drew ?_ | refine blk_alloc ?_ _)); exact z5w) Try.underlying26 rfl (by kernel_rfl)) rfl ?_
     exact ⟨rfl, by repeat (first | exact HB5 | refine below_set ?_ HG2.out.1)⟩
   ·rw [if_neg c] at H
    have cb : decide (i < 2) = false := decide_eq_false c
    simp only [Option.some.injEq, Prod.mk.injEq] at H
    obtain ⟨rfl, rfl, rfl, rfl, rfl, rfl, rfl⟩ := H
    have hzc0 : World.cell? _ ⟨g2, 0, none⟩ = some (.int .u64 0) := (blk_cell z 0).trans rfl; have hzf0 := blk_frozen z 0; have hzc1 : World.cell? _ ⟨g2, 1, none⟩ = some (.int .u64 0) := (blk_cell z 1).trans rfl; have hzf1 := blk_frozen z 1; have hzc2 : World.cell? _ ⟨g2, 2, none⟩ = some (.int .u64 0) := (blk_cell z 2).trans rfl; have hzf2 := blk_frozen z 2; have hzc3 : World.cell? _ ⟨g2, 3, none⟩ = some (.int .u64 0) := (blk_cell z 3).trans rfl; have hzf3 := blk_frozen z 3; have hzc4 : World.cell? _ ⟨g2, 4, none⟩ = some (.int .i64 0) := (blk_cell z 4).trans rfl; have hzf4 := blk_frozen z 4; have hzc5 : World.cell? _ ⟨g2, 5, none⟩ = some (.int .i64 0) := (blk_cell z 5).trans rfl; have hzf5 := blk_frozen z 5
    have hne1 := HG2.out.2
    have hne2 := HG2.out.2.symm
    go_wp2
    refine bodyPost_ret (results_ct rfl _ _ g2 26 #[.int .u64 s0, .int .u64 s1, .int .u64 s2, .int .u64 s3, .int .i64 s4, .int .i64 s5] (0, 0) _ rfl (by (with_reducible repeat (first | refine blk_drewN ?_ _ | refine blk_drew ?_ | refine blk_alloc ?_ _)); refine blk_put (cs := #[.int .u64 s0, .int .u64 s1, .int .u64 s2, .int .u64 s3, .int .i64 s4, .int .i64 0]) ?_ 5 _ rfl; (with_reducible repeat (first | refine blk_drewN ?_ _ | refine blk_drew ?_ | refine blk_alloc ?_ _)); refine blk_put (cs := #[.int .u64 s0, .int .u64 s1, .int .u64 s2, .int .u64 s3, .int .i64 0, .int .i64 0]) ?_ 4 _ rfl; (with_reducible repeat (first | refine blk_drewN ?_ _ | refine blk_drew ?_ | refine blk_alloc ?_ _)); refine blk_put (cs := #[.int .u64 s0, .int .u64 s1, .int .u64 s2, .int .u64 0, .int .i64 0, .int .i64 0]) ?_ 3 _ rfl; (with_reducible repeat (first | refine blk_drewN ?_ _ | refine blk_drew ?_ | refine blk_alloc ?_ _)); refine blk_put (cs := #[.int .u64 s0, .int .u64 s1, .int .u64 0, .int .u64 0, .int .i64 0, .int .i64 0]) ?_ 2 _ rfl; (with_reducible repeat (first | refine blk_drewN ?_ _ | refine blk_drew ?_ | refine blk_alloc ?_ _)); refine blk_put (cs := #[.int .u64 s0, .int .u64 0, .int .u64 0, .int .u64 0, .int .i64 0, .int .i64 0]) ?_ 1 _ rfl; (with_reducible repeat (first | refine blk_drewN ?_ _ | refine blk_drew ?_ | refine blk_alloc ?_ _)); refine blk_put (cs := #[.int .u64 0, .int .u64 0, .int .u64 0, .int .u64 0, .int .i64 0, .int .i64 0]) ?_ 0 _ rfl; (with_reducible repeat (first | refine blk_drewN ?_ _ | refine blk_drew ?_ | refine blk_alloc ?_ _)); exact z) Try.underlying26 rfl (by kernel_rfl)) rfl ?_
    exact ⟨rfl, by repeat (first | exact HB.out | refine below_set ?_ HG2.out.1)⟩


/-! ### num_orAll: function 49 -/
def num_orAll.f (a0_0 : Int) (a0_1 : Int) (a0_2 : Int) (a0_3 : Int) (a0_4 : Int) (a0_5 : Int) : Option (Int × Int × Int × Int × Int × Int) := (num_Refine.f a0_0 a0_1 a0_2 a0_3 a0_4 a0_5).bind fun bt144 => (some (bt144.1, bt144.2.1, bt144.2.2.1, bt144.2.2.2.1, bt144.2.2.2.2.1, bt144.2.2.2.2.2.1))
set_option maxHeartbeats 8000000 in
set_option maxRecDepth 100000 in
theorem num_orAll.calls (a0_0 : Int) (a0_1 : Int) (a0_2 : Int) (a0_3 : Int) (a0_4 : Int) (a0_5 : Int) (r1 : Int) (r2 : Int) (r3 : Int) (r4 : Int) (r5 : Int) (r6 : Int) (w : World) (h : num_orAll.f a0_0 a0_1 a0_2 a0_3 a0_4 a0_5 = some (r1, r2, r3, r4, r5, r6)) :
  Calls Try.prog 49 #[.agg #[.int .u64 a0_0, .int .u64 a0_1, .int .u64 a0_2, .int .u64 a0_3, .int .i64 a0_4, .int .i64 a0_5]] w fun e w' => e = .returned (.agg #[.int .u64 r1, .int .u64 r2, .int .u64 r3, .int .u64 r4, .int .i64 r5, .int .i64 r6]) ∧ Below w.heap.size w w' := by
 have hu26 := Try.underlying26
 have HB := Aside0.mk (Below.refl w.heap.size w)
 have H : ((num_Refine.f a0_0 a0_1 a0_2 a0_3 a0_4 a0_5).bind fun bt144 => (some (bt144.1, bt144.2.1, bt144.2.2.1, bt144.2.2.2.1, bt144.2.2.2.2.1, bt144.2.2.2.2.2.1))) = some (r1, r2, r3, r4, r5, r6) := h
 clear h
 replace H := Option.bind_eq_some_iff.mp H
 obtain ⟨⟨t144, t145, t146, t147, t148, t149, t150⟩, A20, H⟩ := H
 replace H : (some (t144, t145, t146, t147, t148, t149)) = some (r1, r2, r3, r4, r5, r6) := H
 have A2 := Aside0.mk A20
 clear A20
 simp only [Option.some.injEq, Prod.mk.injEq] at H
 obtain ⟨rfl, rfl, rfl, rfl, rfl, rfl⟩ := H
 go_enter Try.func49, Try.ntmps49
 go_wp2_with (first | ((with_reducible refine gate_dst (N := 1) rfl ?_); refine box_event ?hg (N := 1) ?hd (cs := #[.int .u64 a0_0, .int .u64 a0_1, .int .u64 a0_2, .int .u64 a0_3, .int .i64 a0_4, .int .i64 a0_5]) (t := 26) ?hr ?_; (case hd => rfl); (case hg => rfl); (case hr => first | (go_simp; done) | (go_simp; rfl)); intro gb142 hg w3 hbox hb; have n0_ := Aside0.mk (below_step (by repeat (first | (with_reducible first | exact HB.out | apply below_alloc | apply pw_below_drewN | apply below_drew1) | exact HB.out)) hb); have n1_ := Aside0.mk (hbox); have n2_ := Aside0.mk ((by rw [hg]; exact (below_size (by repeat (first | (with_reducible first | exact HB.out | apply below_alloc | apply pw_below_drewN | apply below_drew1) | exact HB.out))) : w.heap.size ≤ gb142)); have n3_ := Aside0.mk ((by rw [hg]; exact (below_size (by repeat (first | (with_reducible first | exact HB.out | apply below_alloc | apply pw_below_drewN | apply below_drew1) | exact HB.out))) : w.heap.size ≤ gb142)); clear HB; have HB := n0_; have BK142 := n1_; have GW142 := n2_; have GE142 := n3_; clear n0_ n1_ n2_ n3_; clear hb hbox hg) | ((with_reducible refine gate_dst (N := 2) rfl ?_); refine box_event ?hg (N := 2) ?hd (cs := #[.int .u64 0, .int .u64 0, .int .u64 0, .int .u64 0, .int .i64 0, .int .i64 0]) (t := 26) ?hr ?_; (case hd => rfl); (case hg => rfl); (case hr => first | (go_simp; done) | (go_simp; rfl)); intro gb143 hg w4 hbox hb; have n0_ := Aside0.mk (blk_below (g := gb142) (o := .cells #[.int .u64 a0_0, .int .u64 a0_1, .int .u64 a0_2, .int .u64 a0_3, .int .i64 a0_4, .int .i64 a0_5] 26 (0, 0)) (by (with_reducible repeat (first | refine blk_drewN ?_ _ | refine blk_drew ?_ | refine blk_alloc ?_ _)); exact BK142.out) hb); have n1_ := Aside0.mk (below_step (by repeat (first | (with_reducible first | exact HB.out | apply below_alloc | apply pw_below_drewN | apply below_drew1 | refine below_set ?_ GE142.out) | exact HB.out)) hb); have n2_ := Aside0.mk (hbox); have n3_ := Aside0.mk ((by rw [hg]; exact (below_size (by repeat (first | (with_reducible first | exact HB.out | apply below_alloc | apply pw_below_drewN | apply below_drew1 | refine below_set ?_ GE142.out) | exact HB.out))) : w.heap.size ≤ gb143)); have n4_ := Aside0.mk ((by rw [hg]; exact (below_size (by repeat (first | (with_reducible first | exact HB.out | apply below_alloc | apply pw_below_drewN | apply below_drew1 | refine below_set ?_ GE142.out) | exact HB.out))) : w.heap.size ≤ gb143)); have n5_ := Aside0.mk ((by rw [hg]; exact Nat.ne_of_lt (blk_lt (g := gb142) (o := .cells #[.int .u64 a0_0, .int .u64 a0_1, .int .u64 a0_2, .int .u64 a0_3, .int .i64 a0_4, .int .i64 a0_5] 26 (0, 0)) (by (with_reducible repeat (first | refine blk_drewN ?_ _ | refine blk_drew ?_ | refine blk_alloc ?_ _)); exact BK142.out)) : gb142 ≠ gb143)); have n6_ := Aside0.mk ((by rw [hg]; exact Nat.ne_of_gt (blk_lt (g := gb142) (o := .cells #[.int .u64 a0_0, .int .u64 a0_1, .int .u64 a0_2, .int .u64 a0_3, .int .i64 a0_4, .int .i64 a0_5] 26 (0, 0)) (by (with_reducible repeat (first | refine blk_drewN ?_ _ | refine blk_drew ?_ | refine blk_alloc ?_ _)); exact BK142.out)) : gb143 ≠ gb142)); clear BK142; clear HB; have BK142 := n0_; have HB := n1_; have BK143 := n2_; have GW143 := n3_; have GE143 := n4_; have NB142_143 := n5_; have NB143_142 := n6_; clear n0_ n1_ n2_ n3_ n4_ n5_ n6_; clear hb hbox hg; have hnb5 := NB142_143.out; have hnc5 := NB143_142.out; have hcz6_0 : w4.cell? ⟨gb142, 0, none⟩ = some (.int .u64 a0_0) := (blk_cell BK142.out 0).trans rfl; have hcz6_1 : w4.cell? ⟨gb142, 1, none⟩ = some (.int .u64 a0_1) := (blk_cell BK142.out 1).trans rfl; have hcz6_2 : w4.cell? ⟨gb142, 2, none⟩ = some (.int .u64 a0_2) := (blk_cell BK142.out 2).trans rfl; have hcz6_3 : w4.cell? ⟨gb142, 3, none⟩ = some (.int .u64 a0_3) := (blk_cell BK142.out 3).trans rfl; have hcz6_4 : w4.cell? ⟨gb142, 4, none⟩ = some (.int .i64 a0_4) := (blk_cell BK142.out 4).trans rfl; have hcz6_5 : w4.cell? ⟨gb142, 5, none⟩ = some (.int .i64 a0_5) := (blk_cell BK142.out 5).trans rfl; have hfz6_0 := blk_frozen BK142.out 0; have hfz6_1 := blk_frozen BK142.out 1; have hfz6_2 := blk_frozen BK142.out 2; have hfz6_3 := blk_frozen BK142.out 3; have hfz6_4 := blk_frozen BK142.out 4; have hfz6_5 := blk_frozen BK142.out 5) | ((with_reducible refine gate_callee (f := 20) rfl ?_); refine goesL_ (some 7) rfl rfl Try.func20 (by kernel_rfl) rfl #[.agg #[.int .u64 a0_0, .int .u64 a0_1, .int .u64 a0_2, .int .u64 a0_3, .int .i64 a0_4, .int .i64 a0_5]] rfl (by (try simp only [List.map_toArray, List.map_cons, List.map_nil]); first | done | rfl | (simp only [List.length_drop, List.length_take]; rfl)) ?_; (with_reducible refine (num_Refine.calls a0_0 a0_1 a0_2 a0_3 a0_4 a0_5 t144 t145 t146 t147 t148 t149 t150 _ A2.out).mono ?_); rintro e w7 ⟨rfl, hb⟩; refine ⟨_, rfl, ?_⟩; have n0_ := Aside0.mk (blk_below (g := gb142) (o := .cells #[.int .u64 a0_0, .int .u64 a0_1, .int .u64 a0_2, .int .u64 a0_3, .int .i64 a0_4, .int .i64 a0_5] 26 (0, 0)) (by (with_reducible repeat (first | refine blk_drewN ?_ _ | refine blk_drew ?_ | refine blk_alloc ?_ _)); exact BK142.out) hb); have n1_ := Aside0.mk (blk_below (g := gb143) (o := .cells #[.int .u64 0, .int .u64 0, .int .u64 0, .int .u64 0, .int .i64 0, .int .i64 0] 26 (0, 0)) (by (with_reducible repeat (first | refine blk_drewN ?_ _ | refine blk_drew ?_ | refine blk_alloc ?_ _)); exact BK143.out) hb); have n2_ := Aside0.mk (below_step (by repeat (first | (with_reducible first | exact HB.out | apply below_alloc | apply pw_below_drewN | apply below_drew1 | refine below_set ?_ GE142.out | refine below_set ?_ GE143.out) | exact HB.out)) hb); clear BK142; clear BK143; clear HB; have BK142 := n0_; have BK143 := n1_; have HB := n2_; clear n0_ n1_ n2_; (try clear hb); (try clear hb2); (try clear hk); (try clear hi)) | ((with_reducible refine gate_dst (N := 3) rfl ?_); refine box_event ?hg (N := 3) ?hd (cs := #[.int .u64 0, .int .u64 0, .int .u64 0, .int .u64 0, .int .i64 0, .int .i64 0]) (t := 26) ?hr ?_; (case hd => rfl); (case hg => rfl); (case hr => first | (go_simp; done) | (go_simp; rfl)); intro gb151 hg w8 hbox hb; have n0_ := Aside0.mk (blk_below (g := gb142) (o := .cells #[.int .u64 a0_0, .int .u64 a0_1, .int .u64 a0_2, .int .u64 a0_3, .int .i64 a0_4, .int .i64 a0_5] 26 (0, 0)) (by (with_reducible repeat (first | refine blk_drewN ?_ _ | refine blk_drew ?_ | refine blk_alloc ?_ _)); exact BK142.out) hb); have n1_ := Aside0.mk (blk_below (g := gb143) (o := .cells #[.int .u64 0, .int .u64 0, .int .u64 0, .int .u64 0, .int .i64 0, .int .i64 0] 26 (0, 0)) (by (with_reducible repeat (first | refine blk_drewN ?_ _ | refine blk_drew ?_ | refine blk_alloc ?_ _)); exact BK143.out) hb); have n2_ := Aside0.mk (below_step (by repeat (first | (with_reducible first | exact HB.out | apply below_alloc | apply pw_below_drewN | apply below_drew1 | refine below_set ?_ GE142.out | refine below_set ?_ GE143.out) | exact HB.out)) hb); have n3_ := Aside0.mk (hbox); have n4_ := Aside0.mk ((by rw [hg]; exact (below_size (by repeat (first | (with_reducible first | exact HB.out | apply below_alloc | apply pw_below_drewN | apply below_drew1 | refine below_set ?_ GE142.out | refine below_set ?_ GE143.out) | exact HB.out))) : w.heap.size ≤ gb151)); have n5_ := Aside0.mk ((by rw [hg]; exact (below_size (by repeat (first | (with_reducible first | exact HB.out | apply below_alloc | apply pw_below_drewN | apply below_drew1 | refine below_set ?_ GE142.out | refine below_set ?_ GE143.out) | exact HB.out))) : w.heap.size ≤ gb151)); have n6_ := Aside0.mk ((by rw [hg]; exact Nat.ne_of_lt (blk_lt (g := gb142) (o := .cells #[.int .u64 a0_0, .int .u64 a0_1, .int .u64 a0_2, .int .u64 a0_3, .int .i64 a0_4, .int .i64 a0_5] 26 (0, 0)) (by (with_reducible repeat (first | refine blk_drewN ?_ _ | refine blk_drew ?_ | refine blk_alloc ?_ _)); exact BK142.out)) : gb142 ≠ gb151)); have n7_ := Aside0.mk ((by rw [hg]; exact Nat.ne_of_gt (blk_lt (g := gb142) (o := .cells #[.int .u64 a0_0, .int .u64 a0_1, .int .u64 a0_2, .int .u64 a0_3, .int .i64 a0_4, .int .i64 a0_5] 26 (0, 0)) (by (with_reducible repeat (first | refine blk_drewN ?_ _ | refine blk_drew ?_ | refine blk_alloc ?_ _)); exact BK142.out)) : gb151 ≠ gb142)); have n8_ := Aside0.mk ((by rw [hg]; exact Nat.ne_of_lt (blk_lt (g := gb143) (o := .cells #[.int .u64 0, .int .u64 0, .int .u64 0, .int .u64 0, .int .i64 0, .int .i64 0] 26 (0, 0)) (by (with_reducible repeat (first | refine blk_drewN ?_ _ | refine blk_drew ?_ | refine blk_alloc ?_ _)); exact BK143.out)) : gb143 ≠ gb151)); have n9_ := Aside0.mk ((by rw [hg]; exact Nat.ne_of_gt (blk_lt (g := gb143) (o := .cells #[.int .u64 0, .int .u64 0, .int .u64 0, .int .u64 0, .int .i64 0, .int .i64 0] 26 (0, 0)) (by (with_reducible repeat (first | refine blk_drewN ?_ _ | refine blk_drew ?_ | refine blk_alloc ?_ _)); exact BK143.out)) : gb151 ≠ gb143)); clear BK142; clear BK143; clear HB; have BK142 := n0_; have BK143 := n1_; have HB := n2_; have BK151 := n3_; have GW151 := n4_; have GE151 := n5_; have NB142_151 := n6_; have NB151_142 := n7_; have NB143_151 := n8_; have NB151_143 := n9_; clear n0_ n1_ n2_ n3_ n4_ n5_ n6_ n7_ n8_ n9_; clear hb hbox hg; have hnb9 := NB151_142.out; have hnc9 := NB142_151.out; have hnb10 := NB151_143.out; have hnc10 := NB143_151.out; have hcz11_0 : w8.cell? ⟨gb151, 0, none⟩ = some (.int .u64 0) := (blk_cell BK151.out 0).trans rfl; have hcz11_1 : w8.cell? ⟨gb151, 1, none⟩ = some (.int .u64 0) := (blk_cell BK151.out 1).trans rfl; have hcz11_2 : w8.cell? ⟨gb151, 2, none⟩ = some (.int .u64 0) := (blk_cell BK151.out 2).trans rfl; have hcz11_3 : w8.cell? ⟨gb151, 3, none⟩ = some (.int .u64 0) := (blk_cell BK151.out 3).trans rfl; have hcz11_4 : w8.cell? ⟨gb151, 4, none⟩ = some (.int .i64 0) := (blk_cell BK151.out 4).trans rfl; have hcz11_5 : w8.cell? ⟨gb151, 5, none⟩ = some (.int .i64 0) := (blk_cell BK151.out 5).trans rfl; have hfz11_0 := blk_frozen BK151.out 0; have hfz11_1 := blk_frozen BK151.out 1; have hfz11_2 := blk_frozen BK151.out 2; have hfz11_3 := blk_frozen BK151.out 3; have hfz11_4 := blk_frozen BK151.out 4; have hfz11_5 := blk_frozen BK151.out 5; have hcz12_0 : w8.cell? ⟨gb143, 0, none⟩ = some (.int .u64 0) := (blk_cell BK143.out 0).trans rfl; have hcz12_1 : w8.cell? ⟨gb143, 1, none⟩ = some (.int .u64 0) := (blk_cell BK143.out 1).trans rfl; have hcz12_2 : w8.cell? ⟨gb143, 2, none⟩ = some (.int .u64 0) := (blk_cell BK143.out 2).trans rfl; have hcz12_3 : w8.cell? ⟨gb143, 3, none⟩ = some (.int .u64 0) := (blk_cell BK143.out 3).trans rfl; have hcz12_4 : w8.cell? ⟨gb143, 4, none⟩ = some (.int .i64 0) := (blk_cell BK143.out 4).trans rfl; have hcz12_5 : w8.cell? ⟨gb143, 5, none⟩ = some (.int .i64 0) := (blk_cell BK143.out 5).trans rfl; have hfz12_0 := blk_frozen BK143.out 0; have hfz12_1 := blk_frozen BK143.out 1; have hfz12_2 := blk_frozen BK143.out 2; have hfz12_3 := blk_frozen BK143.out 3; have hfz12_4 := blk_frozen BK143.out 4; have hfz12_5 := blk_frozen BK143.out 5))
 refine bodyPost_ret (results_cell_row rfl _ _ gb143 26 #[.int .u64 t144, .int .u64 t145, .int .u64 t146, .int .u64 t147, .int .i64 t148, .int .i64 t149] (0, 0) _ rfl (by (with_reducible repeat (first | refine blk_drewN ?_ _ | refine blk_drew ?_ | refine blk_alloc ?_ _)); refine blk_put (cs := #[.int .u64 t144, .int .u64 t145, .int .u64 t146, .int .u64 t147, .int .i64 t148, .int .i64 0]) ?_ 5 _ rfl; (with_reducible repeat (first | refine blk_drewN ?_ _ | refine blk_drew ?_ | refine blk_alloc ?_ _)); refine blk_put (cs := #[.int .u64 t144, .int .u64 t145, .int .u64 t146, .int .u64 t147, .int .i64 0, .int .i64 0]) ?_ 4 _ rfl; (with_reducible repeat (first | refine blk_drewN ?_ _ | refine blk_drew ?_ | refine blk_alloc ?_ _)); refine blk_put (cs := #[.int .u64 t144, .int .u64 t145, .int .u64 t146, .int .u64 0, .int .i64 0, .int .i64 0]) ?_ 3 _ rfl; (with_reducible repeat (first | refine blk_drewN ?_ _ | refine blk_drew ?_ | refine blk_alloc ?_ _)); refine blk_put (cs := #[.int .u64 t144, .int .u64 t145, .int .u64 0, .int .u64 0, .int .i64 0, .int .i64 0]) ?_ 2 _ rfl; (with_reducible repeat (first | refine blk_drewN ?_ _ | refine blk_drew ?_ | refine blk_alloc ?_ _)); refine blk_put (cs := #[.int .u64 t144, .int .u64 0, .int .u64 0, .int .u64 0, .int .i64 0, .int .i64 0]) ?_ 1 _ rfl; (with_reducible repeat (first | refine blk_drewN ?_ _ | refine blk_drew ?_ | refine blk_alloc ?_ _)); refine blk_put (cs := #[.int .u64 0, .int .u64 0, .int .u64 0, .int .u64 0, .int .i64 0, .int .i64 0]) ?_ 0 _ rfl; (with_reducible repeat (first | refine blk_drewN ?_ _ | refine blk_drew ?_ | refine blk_alloc ?_ _)); refine blk_far ?_ NB143_151.out _; (with_reducible repeat (first | refine blk_drewN ?_ _ | refine blk_drew ?_ | refine blk_alloc ?_ _)); refine blk_far ?_ NB143_151.out _; (with_reducible repeat (first | refine blk_drewN ?_ _ | refine blk_drew ?_ | refine blk_alloc ?_ _)); refine blk_far ?_ NB143_151.out _; (with_reducible repeat (first | refine blk_drewN ?_ _ | refine blk_drew ?_ | refine blk_alloc ?_ _)); refine blk_far ?_ NB143_151.out _; (with_reducible repeat (first | refine blk_drewN ?_ _ | refine blk_drew ?_ | refine blk_alloc ?_ _)); refine blk_far ?_ NB143_151.out _; (with_reducible repeat (first | refine blk_drewN ?_ _ | refine blk_drew ?_ | refine blk_alloc ?_ _)); refine blk_far ?_ NB143_151.out _; (with_reducible repeat (first | refine blk_drewN ?_ _ | refine blk_drew ?_ | refine blk_alloc ?_ _)); exact BK143.out) Try.underlying26 rfl (by kernel_rfl)) rfl ?_
 exact ⟨by first | rfl | (simp [errW_none, errW_some] <;> rfl) | (simp [*, errW_none, errW_some] <;> rfl), by repeat (first | (with_reducible first | exact HB.out | apply below_alloc | apply pw_below_drewN | apply below_drew1 | refine below_set ?_ GE142.out | refine below_set ?_ GE143.out | refine below_set ?_ GE151.out) | exact HB.out)⟩

/-! ### num_Cut: function 19 -/
def num_Cut.j0 : Nat → Int → Bool → Int → Int → Int → Int → Int → Int → Option (Int × Int × Int × Int × Int × Int)
 | 0, _, _, _, _, _, _, _, _ => none
 | k + 1, x1, x12, x153000, x153001, x153002, x153003, x153004, x153005 => if x12 = true then (some (x153000, x153001, x153002, x153003, x153004, x153005)) else ((num_All.f).bind fun bt155 => ((tnum_Cut.f x153000 x153001 x1).bind fun bt162 => ((words_Low.f (wrap64 (8 * x1))).bind fun t164 => ((num_Low.f x153000 x153001 x153002 x153003 x153004 x153005 x1).bind fun t165 => (if t165 = true then ((num_orAll.f bt162.1 bt162.2 x153002 x153003 bt155.2.2.2.2.1 bt155.2.2.2.2.2).bind fun bt166 => (some (bt166.1, bt166.2.1, bt166.2.2.1, bt166.2.2.2.1, bt166.2.2.2.2.1, bt166.2.2.2.2.2))) else ((num_orAll.f bt162.1 bt162.2 bt155.2.2.1 t164 bt155.2.2.2.2.1 bt155.2.2.2.2.2).bind fun bt172 => (some (bt172.1, bt172.2.1, bt172.2.2.1, bt172.2.2.2.1, bt172.2.2.2.2.1, bt172.2.2.2.2.2))))))))
def num_Cut.f (k : Nat) (a0_0 : Int) (a0_1 : Int) (a0_2 : Int) (a0_3 : Int) (a0_4 : Int) (a0_5 : Int) (a1 : Int) : Option (Int × Int × Int × Int × Int × Int) := if a1 = 8 then (num_Cut.j0 k a1 true a0_0 a0_1 a0_2 a0_3 a0_4 a0_5) else ((words_IsSize.f a1).bind fun t154 => (num_Cut.j0 k a1 (!t154) a0_0 a0_1 a0_2 a0_3 a0_4 a0_5))
theorem num_Cut.mono_l : ∀ k, (∀ y0 y1 y2 y3 y4 y5 y6 y7, LeO (num_Cut.j0 k y0 y1 y2 y3 y4 y5 y6 y7) (num_Cut.j0 (k + 1) y0 y1 y2 y3 y4 y5 y6 y7))
 | 0 => fun _ _ _ _ _ _ _ _ r h => by simp [num_Cut.j0] at h
 | k + 1 => by
  have ih0 := num_Cut.mono_l k
  ·intro y0 y1 y2 y3 y4 y5 y6 y7
   unfold num_Cut.j0
   repeat' first
   | (with_reducible exact ih0 _ _ _ _ _ _ _ _)
   | (with_reducible exact LeO.refl _)
   | (with_reducible exact LeO.none _)
   | (with_reducible refine LeO.ite ?_ ?_)
   | (with_reducible refine LeO.bind ?_ (fun _ => ?_))
   | exact ih0 _ _ _ _ _ _ _ _
   | exact LeO.none _
   | refine LeO.ite ?_ ?_
   | refine LeO.bind ?_ (fun _ => ?_)
theorem num_Cut.mono : ∀ a0 a1 a2 a3 a4 a5 a6 k, LeO (num_Cut.f k a0 a1 a2 a3 a4 a5 a6) (num_Cut.f (k + 1) a0 a1 a2 a3 a4 a5 a6) := by
 intro a0 a1 a2 a3 a4 a5 a6 k
 have ih0 := num_Cut.mono_l k
 unfold num_Cut.f
 repeat' first
   | (with_reducible exact ih0 _ _ _ _ _ _ _ _)
   | (with_reducible exact LeO.refl _)
   | (with_reducible exact LeO.none _)
   | (with_reducible refine LeO.ite ?_ ?_)
   | (with_reducible refine LeO.bind ?_ (fun _ => ?_))
   | exact ih0 _ _ _ _ _ _ _ _
   | exact LeO.none _
   | refine LeO.ite ?_ ?_
   | refine LeO.bind ?_ (fun _ => ?_)
def num_Cut.T6 : Bool × List (List Nat × List Nat) := (true, [([], []), ([0], [0]), ([], []), ([2], [2]), ([0, 1], []), ([4, 1, 0, 1], [1, 4]), ([0, 1, 2, 3, 4, 5], []), ([6, 3, 5, 0, 1, 2, 3, 4, 5], [3, 6])])
def num_Cut.B6 : List Nat := [0, 1, 0, 4, 3, 19, 63, 127]
theorem num_Cut.tab6 : rtab .any (opsOf Try.f19 6) = num_Cut.T6 := by kernel_rfl
theorem num_Cut.bits6 : waitsOk num_Cut.T6.2 num_Cut.B6 = true := by kernel_rfl
set_option maxHeartbeats 8000000 in
set_option maxRecDepth 100000 in
theorem num_Cut.calls (k : Nat) (a0_0 : Int) (a0_1 : Int) (a0_2 : Int) (a0_3 : Int) (a0_4 : Int) (a0_5 : Int) (a1 : Int) (r1 : Int) (r2 : Int) (r3 : Int) (r4 : Int) (r5 : Int) (r6 : Int) (w : World) (h : num_Cut.f k a0_0 a0_1 a0_2 a0_3 a0_4 a0_5 a1 = some (r1, r2, r3, r4, r5, r6)) :
  Calls Try.prog 19 #[.agg #[.int .u64 a0_0, .int .u64 a0_1, .int .u64 a0_2, .int .u64 a0_3, .int .i64 a0_4, .int .i64 a0_5], .int .i64 a1] w fun e w' => e = .returned (.agg #[.int .u64 r1, .int .u64 r2, .int .u64 r3, .int .u64 r4, .int .i64 r5, .int .i64 r6]) ∧ Below w.heap.size w w' := by
 have hu26 := Try.underlying26
 have hu24 := Try.underlying24
 have HB := Aside0.mk (Below.refl w.heap.size w)
 have H : (if a1 = 8 then (num_Cut.j0 k a1 true a0_0 a0_1 a0_2 a0_3 a0_4 a0_5) else ((words_IsSize.f a1).bind fun t154 => (num_Cut.j0 k a1 (!t154) a0_0 a0_1 a0_2 a0_3 a0_4 a0_5))) = some (r1, r2, r3, r4, r5, r6) := h
 clear h
 have HC3 := Aside0.mk H
 clear H
 go_enter Try.func19, Try.ntmps19
 go_upto_region 1 with (first | ((with_reducible refine gate_dst (N := 2) rfl ?_); refine box_event ?hg (N := 2) ?hd (cs := #[.int .u64 a0_0, .int .u64 a0_1, .int .u64 a0_2, .int .u64 a0_3, .int .i64 a0_4, .int .i64 a0_5]) (t := 26) ?hr ?_; (case hd => rfl); (case hg => rfl); (case hr => first | (go_simp; done) | (go_simp; rfl)); intro gb152 hg w4 hbox hb; have n0_ := Aside0.mk (below_step (by repeat (first | (with_reducible first | exact HB.out | apply below_alloc | apply pw_below_drewN | apply below_drew1) | exact HB.out)) hb); have n1_ := Aside0.mk (hbox); have n2_ := Aside0.mk ((by rw [hg]; exact (below_size (by repeat (first | (with_reducible first | exact HB.out | apply below_alloc | apply pw_below_drewN | apply below_drew1) | exact HB.out))) : w.heap.size ≤ gb152)); have n3_ := Aside0.mk ((by rw [hg]; exact (below_size (by repeat (first | (with_reducible first | exact HB.out | apply below_alloc | apply pw_below_drewN | apply below_drew1) | exact HB.out))) : w.heap.size ≤ gb152)); clear HB; have HB := n0_; have BK152 := n1_; have GW152 := n2_; have GE152 := n3_; clear n0_ n1_ n2_ n3_; clear hb hbox hg) | ((with_reducible refine gate_dst (N := 4) rfl ?_); refine box_event ?hg (N := 4) ?hd (cs := #[.int .u64 0, .int .u64 0, .int .u64 0, .int .u64 0, .int .i64 0, .int .i64 0]) (t := 26) ?hr ?_; (case hd => rfl); (case hg => rfl); (case hr => first | (go_simp; done) | (go_simp; rfl)); intro gb153 hg w5 hbox hb; have n0_ := Aside0.mk (blk_below (g := gb152) (o := .cells #[.int .u64 a0_0, .int .u64 a0_1, .int .u64 a0_2, .int .u64 a0_3, .int .i64 a0_4, .int .i64 a0_5] 26 (0, 0)) (by (with_reducible repeat (first | refine blk_drewN ?_ _ | refine blk_drew ?_ | refine blk_alloc ?_ _)); exact BK152.out) hb); have n1_ := Aside0.mk (below_step (by repeat (first | (with_reducible first | exact HB.out | apply below_alloc | apply pw_below_drewN | apply below_drew1 | refine below_set ?_ GE152.out) | exact HB.out)) hb); have n2_ := Aside0.mk (hbox); have n3_ := Aside0.mk ((by rw [hg]; exact (below_size (by repeat (first | (with_reducible first | exact HB.out | apply below_alloc | apply pw_below_drewN | apply below_drew1 | refine below_set ?_ GE152.out) | exact HB.out))) : w.heap.size ≤ gb153)); have n4_ := Aside0.mk ((by rw [hg]; exact (below_size (by repeat (first | (with_reducible first | exact HB.out | apply below_alloc | apply pw_below_drewN | apply below_drew1 | refine below_set ?_ GE152.out) | exact HB.out))) : w.heap.size ≤ gb153)); have n5_ := Aside0.mk ((by rw [hg]; exact Nat.ne_of_lt (blk_lt (g := gb152) (o := .cells #[.int .u64 a0_0, .int .u64 a0_1, .int .u64 a0_2, .int .u64 a0_3, .int .i64 a0_4, .int .i64 a0_5] 26 (0, 0)) (by (with_reducible repeat (first | refine blk_drewN ?_ _ | refine blk_drew ?_ | refine blk_alloc ?_ _)); exact BK152.out)) : gb152 ≠ gb153)); have n6_ := Aside0.mk ((by rw [hg]; exact Nat.ne_of_gt (blk_lt (g := gb152) (o := .cells #[.int .u64 a0_0, .int .u64 a0_1, .int .u64 a0_2, .int .u64 a0_3, .int .i64 a0_4, .int .i64 a0_5] 26 (0, 0)) (by (with_reducible repeat (first | refine blk_drewN ?_ _ | refine blk_drew ?_ | refine blk_alloc ?_ _)); exact BK152.out)) : gb153 ≠ gb152)); clear BK152; clear HB; have BK152 := n0_; have HB := n1_; have BK153 := n2_; have GW153 := n3_; have GE153 := n4_; have NB152_153 := n5_; have NB153_152 := n6_; clear n0_ n1_ n2_ n3_ n4_ n5_ n6_; clear hb hbox hg))
 (try simp only [Act.put, List.setIfInBounds_toArray, List.set_cons_zero, List.set_cons_succ])
 go_cut [12] (fun v12 wc => ∃ (kq : Nat) (x12_2 : Bool), v12 = .bool x12_2 ∧ Aside0 (num_Cut.j0 kq a1 x12_2 a0_0 a0_1 a0_2 a0_3 a0_4 a0_5 = some (r1, r2, r3, r4, r5, r6)) ∧ Aside0 (kq ≤ k) ∧ Aside0 (wc.heap[gb152]? = some (.cells #[.int .u64 a0_0, .int .u64 a0_1, .int .u64 a0_2, .int .u64 a0_3, .int .i64 a0_4, .int .i64 a0_5] 26 (0, 0))) ∧ Aside0 (wc.heap[gb153]? = some (.cells #[.int .u64 0, .int .u64 0, .int .u64 0, .int .u64 0, .int .i64 0, .int .i64 0] 26 (0, 0))) ∧ Aside0 (Below w.heap.size w wc))
 case first =>
  have H := HC3.out
  clear HC3
  by_cases c6 : a1 = 8
  ·rw [if_pos c6] at H
   have c6b0 : (a1 == 8) = true := beq_iff_eq.mpr c6
   have c6b1 : (a1 != 8) = false := bne_eq_false_iff_eq.mpr c6
   clear c6
   (first | rw [c6b0] | (simp only [i64_w, i32_w]; rw [c6b0]) | skip)
   have H' := Aside0.mk H
   clear H
   go_wp2
   go_meet
   case rel => exact ⟨_, (true), (by first | rfl | (simp; done) | (simp [*]; done)), H', ⟨by first | omega | exact Nat.le_refl _⟩, ⟨by (with_reducible repeat (first | refine blk_drewN ?_ _ | refine blk_drew ?_ | refine blk_alloc ?_ _)); exact BK152.out⟩, ⟨by (with_reducible repeat (first | refine blk_drewN ?_ _ | refine blk_drew ?_ | refine blk_alloc ?_ _)); exact BK153.out⟩, ⟨by repeat (first | (with_reducible first | exact HB.out | apply below_alloc | apply pw_below_drewN | apply below_drew1 | refine below_set ?_ GE152.out | refine below_set ?_ GE153.out) | exact HB.out)⟩⟩
  ·rw [if_neg c6] at H
   have c6b0 : (a1 == 8) = false := beq_eq_false_iff_ne.mpr c6
   have c6b1 : (a1 != 8) = true := bne_iff_ne.mpr c6
   (first | rw [c6b0] | (simp only [i64_w, i32_w]; rw [c6b0]) | skip)
   replace H := Option.bind_eq_some_iff.mp H
   obtain ⟨t154, A70, H⟩ := H
   replace H : (num_Cut.j0 k a1 (!t154) a0_0 a0_1 a0_2 a0_3 a0_4 a0_5) = some (r1, r2, r3, r4, r5, r6) := H
   have A7 := Aside0.mk A70
   clear A70
   have H' := Aside0.mk H
   clear H
   go_wp2_with (first | (go_at_call 45; (with_reducible refine (words_IsSize.calls a1 t154 _ A7.out).mono ?_); rintro e w' ⟨rfl, ⟨nd, rfl⟩⟩))
   go_meet
   case rel => exact ⟨_, (!t154), (by first | rfl | (simp; done) | (simp [*]; done)), H', ⟨by first | omega | exact Nat.le_refl _⟩, ⟨by (with_reducible repeat (first | refine blk_drewN ?_ _ | refine blk_drew ?_ | refine blk_alloc ?_ _)); exact BK152.out⟩, ⟨by (with_reducible repeat (first | refine blk_drewN ?_ _ | refine blk_drew ?_ | refine blk_alloc ?_ _)); exact BK153.out⟩, ⟨by repeat (first | (with_reducible first | exact HB.out | apply below_alloc | apply pw_below_drewN | apply below_drew1 | refine below_set ?_ GE152.out | refine below_set ?_ GE153.out) | exact HB.out)⟩⟩
 case rest =>
  clear HC3
  try clear c1
  try clear p2
  try clear c6
  try clear c6b0
  try clear c6b1
  obtain ⟨kq, x12_2, rfl, HA, HJ2, BK152, BK153, HB⟩ := hcut
  cases kq with
  | zero => exact absurd HA.out (by simp [num_Cut.j0])
  | succ kj2 =>
   have H := HA.out
   clear HA
   simp only [num_Cut.j0] at H
   by_cases c8 : x12_2 = true
   ·subst c8
    have H1 : (some (a0_0, a0_1, a0_2, a0_3, a0_4, a0_5)) = some (r1, r2, r3, r4, r5, r6) := by rw [if_pos rfl] at H; exact H
    clear H
    have H := H1
    clear H1
    simp only [Option.some.injEq, Prod.mk.injEq] at H
    obtain ⟨rfl, rfl, rfl, rfl, rfl, rfl⟩ := H
    have hnb9 := NB152_153.out
    have hnc9 := NB153_152.out
    have hcz10_0 : wc.cell? ⟨gb152, 0, none⟩ = some (.int .u64 a0_0) := (blk_cell BK152.out 0).trans rfl
    have hcz10_1 : wc.cell? ⟨gb152, 1, none⟩ = some (.int .u64 a0_1) := (blk_cell BK152.out 1).trans rfl
    have hcz10_2 : wc.cell? ⟨gb152, 2, none⟩ = some (.int .u64 a0_2) := (blk_cell BK152.out 2).trans rfl
    have hcz10_3 : wc.cell? ⟨gb152, 3, none⟩ = some (.int .u64 a0_3) := (blk_cell BK152.out 3).trans rfl
    have hcz10_4 : wc.cell? ⟨gb152, 4, none⟩ = some (.int .i64 a0_4) := (blk_cell BK152.out 4).trans rfl
    have hcz10_5 : wc.cell? ⟨gb152, 5, none⟩ = some (.int .i64 a0_5) := (blk_cell BK152.out 5).trans rfl
    have hfz10_0 := blk_frozen BK152.out 0
    have hfz10_1 := blk_frozen BK152.out 1
    have hfz10_2 := blk_frozen BK152.out 2
    have hfz10_3 := blk_frozen BK152.out 3
    have hfz10_4 := blk_frozen BK152.out 4
    have hfz10_5 := blk_frozen BK152.out 5
    have hcz11_0 : wc.cell? ⟨gb153, 0, none⟩ = some (.int .u64 0) := (blk_cell BK153.out 0).trans rfl
    have hcz11_1 : wc.cell? ⟨gb153, 1, none⟩ = some (.int .u64 0) := (blk_cell BK153.out 1).trans rfl
    have hcz11_2 : wc.cell? ⟨gb153, 2, none⟩ = some (.int .u64 0) := (blk_cell BK153.out 2).trans rfl
    have hcz11_3 : wc.cell? ⟨gb153, 3, none⟩ = some (.int .u64 0) := (blk_cell BK153.out 3).trans rfl
    have hcz11_4 : wc.cell? ⟨gb153, 4, none⟩ = some (.int .i64 0) := (blk_cell BK153.out 4).trans rfl
    have hcz11_5 : wc.cell? ⟨gb153, 5, none⟩ = some (.int .i64 0) := (blk_cell BK153.out 5).trans rfl
    have hfz11_0 := blk_frozen BK153.out 0
    have hfz11_1 := blk_frozen BK153.out 1
    have hfz11_2 := blk_frozen BK153.out 2
    have hfz11_3 := blk_frozen BK153.out 3
    have hfz11_4 := blk_frozen BK153.out 4
    have hfz11_5 := blk_frozen BK153.out 5
    go_wp2
    refine bodyPost_ret (results_cell_row rfl _ _ gb153 26 #[.int .u64 a0_0, .int .u64 a0_1, .int .u64 a0_2, .int .u64 a0_3, .int .i64 a0_4, .int .i64 a0_5] (0, 0) _ rfl (by (with_reducible repeat (first | refine blk_drewN ?_ _ | refine blk_drew ?_ | refine blk_alloc ?_ _)); refine blk_put (cs := #[.int .u64 a0_0, .int .u64 a0_1, .int .u64 a0_2, .int .u64 a0_3, .int .i64 a0_4, .int .i64 0]) ?_ 5 _ rfl; (with_reducible repeat (first | refine blk_drewN ?_ _ | refine blk_drew ?_ | refine blk_alloc ?_ _)); refine blk_put (cs := #[.int .u64 a0_0, .int .u64 a0_1, .int .u64 a0_2, .int .u64 a0_3, .int .i64 0, .int .i64 0]) ?_ 4 _ rfl; (with_reducible repeat (first | refine blk_drewN ?_ _ | refine blk_drew ?_ | refine blk_alloc ?_ _)); refine blk_put (cs := #[.int .u64 a0_0, .int .u64 a0_1, .int .u64 a0_2, .int .u64 0, .int .i64 0, .int .i64 0]) ?_ 3 _ rfl; (with_reducible repeat (first | refine blk_drewN ?_ _ | refine blk_drew ?_ | refine blk_alloc ?_ _)); refine blk_put (cs := #[.int .u64 a0_0, .int .u64 a0_1, .int .u64 0, .int .u64 0, .int .i64 0, .int .i64 0]) ?_ 2 _ rfl; (with_reducible repeat (first | refine blk_drewN ?_ _ | refine blk_drew ?_ | refine blk_alloc ?_ _)); refine blk_put (cs := #[.int .u64 a0_0, .int .u64 0, .int .u64 0, .int .u64 0, .int .i64 0, .int .i64 0]) ?_ 1 _ rfl; (with_reducible repeat (first | refine blk_drewN ?_ _ | refine blk_drew ?_ | refine blk_alloc ?_ _)); refine blk_put (cs := #[.int .u64 0, .int .u64 0, .int .u64 0, .int .u64 0, .int .i64 0, .int .i64 0]) ?_ 0 _ rfl; (with_reducible repeat (first | refine blk_drewN ?_ _ | refine blk_drew ?_ | refine blk_alloc ?_ _)); exact BK153.out) Try.underlying26 rfl (by kernel_rfl)) rfl ?_
    exact ⟨by first | rfl | (simp [errW_none, errW_some] <;> rfl) | (simp [*, errW_none, errW_some] <;> rfl), by repeat (first | (with_reducible first | exact HB.out | apply below_alloc | apply pw_below_drewN | apply below_drew1 | refine below_set ?_ GE152.out | refine below_set ?_ GE153.out) | exact HB.out)⟩
   ·replace c8 := Bool.eq_false_iff.mpr c8
    subst c8
    have H1 : ((num_All.f).bind fun bt155 => ((tnum_Cut.f a0_0 a0_1 a1).bind fun bt162 => ((words_Low.f (wrap64 (8 * a1))).bind fun t164 => ((num_Low.f a0_0 a0_1 a0_2 a0_3 a0_4 a0_5 a1).bind fun t165 => (if t165 = true then ((num_orAll.f bt162.1 bt162.2 a0_2 a0_3 bt155.2.2.2.2.1 bt155.2.2.2.2.2).bind fun bt166 => (some (bt166.1, bt166.2.1, bt166.2.2.1, bt166.2.2.2.1, bt166.2.2.2.2.1, bt166.2.2.2.2.2))) else ((num_orAll.f bt162.1 bt162.2 bt155.2.2.1 t164 bt155.2.2.2.2.1 bt155.2.2.2.2.2).bind fun bt172 => (some (bt172.1, bt172.2.1, bt172.2.2.1, bt172.2.2.2.1, bt172.2.2.2.2.1, bt172.2.2.2.2.2)))))))) = some (r1, r2, r3, r4, r5, r6) := by rw [if_neg (show ¬ (false = true) by decide)] at H; exact H
    clear H
    have H := H1
    clear H1
    replace H := Option.bind_eq_some_iff.mp H
    obtain ⟨⟨t155, t156, t157, t158, t159, t160⟩, A120, H⟩ := H
    replace H : ((tnum_Cut.f a0_0 a0_1 a1).bind fun bt162 => ((words_Low.f (wrap64 (8 * a1))).bind fun t164 => ((num_Low.f a0_0 a0_1 a0_2 a0_3 a0_4 a0_5 a1).bind fun t165 => (if t165 = true then ((num_orAll.f bt162.1 bt162.2 a0_2 a0_3 t159 t160).bind fun bt166 => (some (bt166.1, bt166.2.1, bt166.2.2.1, bt166.2.2.2.1, bt166.2.2.2.2.1, bt166.2.2.2.2.2))) else ((num_orAll.f bt162.1 bt162.2 t157 t164 t159 t160).bind fun bt172 => (some (bt172.1, bt172.2.1, bt172.2.2.1, bt172.2.2.2.1, bt172.2.2.2.2.1, bt172.2.2.2.2.2))))))) = some (r1, r2, r3, r4, r5, r6) := H
    have A12 := Aside0.mk A120
    clear A120
    replace H := Option.bind_eq_some_iff.mp H
    obtain ⟨⟨t162, t163⟩, A130, H⟩ := H
    replace H : ((words_Low.f (wrap64 (8 * a1))).bind fun t164 => ((num_Low.f a0_0 a0_1 a0_2 a0_3 a0_4 a0_5 a1).bind fun t165 => (if t165 = true then ((num_orAll.f t162 t163 a0_2 a0_3 t159 t160).bind fun bt166 => (some (bt166.1, bt166.2.1, bt166.2.2.1, bt166.2.2.2.1, bt166.2.2.2.2.1, bt166.2.2.2.2.2))) else ((num_orAll.f t162 t163 t157 t164 t159 t160).bind fun bt172 => (some (bt172.1, bt172.2.1, bt172.2.2.1, bt172.2.2.2.1, bt172.2.2.2.2.1, bt172.2.2.2.2.2)))))) = some (r1, r2, r3, r4, r5, r6) := H
    have A13 := Aside0.mk A130
    clear A130
    replace H := Option.bind_eq_some_iff.mp H
    obtain ⟨t164, A140, H⟩ := H
    replace H : ((num_Low.f a0_0 a0_1 a0_2 a0_3 a0_4 a0_5 a1).bind fun t165 => (if t165 = true then ((num_orAll.f t162 t163 a0_2 a0_3 t159 t160).bind fun bt166 => (some (bt166.1, bt166.2.1, bt166.2.2.1, bt166.2.2.2.1, bt166.2.2.2.2.1, bt166.2.2.2.2.2))) else ((num_orAll.f t162 t163 t157 t164 t159 t160).bind fun bt172 => (some (bt172.1, bt172.2.1, bt172.2.2.1, bt172.2.2.2.1, bt172.2.2.2.2.1, bt172.2.2.2.2.2))))) = some (r1, r2, r3, r4, r5, r6) := H
    have A14 := Aside0.mk A140
    clear A140
    replace H := Option.bind_eq_some_iff.mp H
    obtain ⟨t165, A150, H⟩ := H
    replace H : (if t165 = true then ((num_orAll.f t162 t163 a0_2 a0_3 t159 t160).bind fun bt166 => (some (bt166.1, bt166.2.1, bt166.2.2.1, bt166.2.2.2.1, bt166.2.2.2.2.1, bt166.2.2.2.2.2))) else ((num_orAll.f t162 t163 t157 t164 t159 t160).bind fun bt172 => (some (bt172.1, bt172.2.1, bt172.2.2.1, bt172.2.2.2.1, bt172.2.2.2.2.1, bt172.2.2.2.2.2)))) = some (r1, r2, r3, r4, r5, r6) := H
    have A15 := Aside0.mk A150
    clear A150
    by_cases c16 : t165 = true
    ·subst c16
     have H1 : ((num_orAll.f t162 t163 a0_2 a0_3 t159 t160).bind fun bt166 => (some (bt166.1, bt166.2.1, bt166.2.2.1, bt166.2.2.2.1, bt166.2.2.2.2.1, bt166.2.2.2.2.2))) = some (r1, r2, r3, r4, r5, r6) := by rw [if_pos rfl] at H; exact H
     clear H
     have H := H1
     clear H1
     replace H := Option.bind_eq_some_iff.mp H
     obtain ⟨⟨t166, t167, t168, t169, t170, t171⟩, A170, H⟩ := H
     replace H : (some (t166, t167, t168, t169, t170, t171)) = some (r1, r2, r3, r4, r5, r6) := H
     have A17 := Aside0.mk A170
     clear A170
     simp only [Option.some.injEq, Prod.mk.injEq] at H
     obtain ⟨rfl, rfl, rfl, rfl, rfl, rfl⟩ := H
     try go_wp2_with (first | ((with_reducible refine gate_callee (f := 15) rfl ?_); refine goesL_ (some 14) rfl rfl Try.func15 (by kernel_rfl) rfl #[] rfl (by (try simp only [List.map_toArray, List.map_cons, List.map_nil]); first | done | rfl | (simp only [List.length_drop, List.length_take]; rfl)) ?_; (with_reducible refine (num_All.calls  t155 t156 t157 t158 t159 t160 _ A12.out).mono ?_); rintro e w18 ⟨rfl, hb⟩; refine ⟨_, rfl, ?_⟩; have n0_ := Aside0.mk (blk_below (g := gb152) (o := .cells #[.int .u64 a0_0, .int .u64 a0_1, .int .u64 a0_2, .int .u64 a0_3, .int .i64 a0_4, .int .i64 a0_5] 26 (0, 0)) (by (with_reducible repeat (first | refine blk_drewN ?_ _ | refine blk_drew ?_ | refine blk_alloc ?_ _)); exact BK152.out) hb); have n1_ := Aside0.mk (blk_below (g := gb153) (o := .cells #[.int .u64 0, .int .u64 0, .int .u64 0, .int .u64 0, .int .i64 0, .int .i64 0] 26 (0, 0)) (by (with_reducible repeat (first | refine blk_drewN ?_ _ | refine blk_drew ?_ | refine blk_alloc ?_ _)); exact BK153.out) hb); have n2_ := Aside0.mk (below_step (by repeat (first | (with_reducible first | exact HB.out | apply below_alloc | apply pw_below_drewN | apply below_drew1 | refine below_set ?_ GE152.out | refine below_set ?_ GE153.out) | exact HB.out)) hb); clear BK152; clear BK153; clear HB; have BK152 := n0_; have BK153 := n1_; have HB := n2_; clear n0_ n1_ n2_; (try clear hb); (try clear hb2); (try clear hk); (try clear hi)) | ((with_reducible refine gate_dst (N := 5) rfl ?_); refine box_event ?hg (N := 5) ?hd (cs := #[.int .u64 0, .int .u64 0, .int .u64 0, .int .u64 0, .int .i64 0, .int .i64 0]) (t := 26) ?hr ?_; (case hd => rfl); (case hg => rfl); (case hr => first | (go_simp; done) | (go_simp; rfl)); intro gb161 hg w19 hbox hb; have n0_ := Aside0.mk (blk_below (g := gb152) (o := .cells #[.int .u64 a0_0, .int .u64 a0_1, .int .u64 a0_2, .int .u64 a0_3, .int .i64 a0_4, .int .i64 a0_5] 26 (0, 0)) (by (with_reducible repeat (first | refine blk_drewN ?_ _ | refine blk_drew ?_ | refine blk_alloc ?_ _)); exact BK152.out) hb); have n1_ := Aside0.mk (blk_below (g := gb153) (o := .cells #[.int .u64 0, .int .u64 0, .int .u64 0, .int .u64 0, .int .i64 0, .int .i64 0] 26 (0, 0)) (by (with_reducible repeat (first | refine blk_drewN ?_ _ | refine blk_drew ?_ | refine blk_alloc ?_ _)); exact BK153.out) hb); have n2_ := Aside0.mk (below_step (by repeat (first | (with_reducible first | exact HB.out | apply below_alloc | apply pw_below_drewN | apply below_drew1 | refine below_set ?_ GE152.out | refine below_set ?_ GE153.out) | exact HB.out)) hb); have n3_ := Aside0.mk (hbox); have n4_ := Aside0.mk ((by rw [hg]; exact (below_size (by repeat (first | (with_reducible first | exact HB.out | apply below_alloc | apply pw_below_drewN | apply below_drew1 | refine below_set ?_ GE152.out | refine below_set ?_ GE153.out) | exact HB.out))) : w.heap.size ≤ gb161)); have n5_ := Aside0.mk ((by rw [hg]; exact (below_size (by repeat (first | (with_reducible first | exact HB.out | apply below_alloc | apply pw_below_drewN | apply below_drew1 | refine below_set ?_ GE152.out | refine below_set ?_ GE153.out) | exact HB.out))) : w.heap.size ≤ gb161)); have n6_ := Aside0.mk ((by rw [hg]; exact Nat.ne_of_lt (blk_lt (g := gb152) (o := .cells #[.int .u64 a0_0, .int .u64 a0_1, .int .u64 a0_2, .int .u64 a0_3, .int .i64 a0_4, .int .i64 a0_5] 26 (0, 0)) (by (with_reducible repeat (first | refine blk_drewN ?_ _ | refine blk_drew ?_ | refine blk_alloc ?_ _)); exact BK152.out)) : gb152 ≠ gb161)); have n7_ := Aside0.mk ((by rw [hg]; exact Nat.ne_of_gt (blk_lt (g := gb152) (o := .cells #[.int .u64 a0_0, .int .u64 a0_1, .int .u64 a0_2, .int .u64 a0_3, .int .i64 a0_4, .int .i64 a0_5] 26 (0, 0)) (by (with_reducible repeat (first | refine blk_drewN ?_ _ | refine blk_drew ?_ | refine blk_alloc ?_ _)); exact BK152.out)) : gb161 ≠ gb152)); have n8_ := Aside0.mk ((by rw [hg]; exact Nat.ne_of_lt (blk_lt (g := gb153) (o := .cells #[.int .u64 0, .int .u64 0, .int .u64 0, .int .u64 0, .int .i64 0, .int .i64 0] 26 (0, 0)) (by (with_reducible repeat (first | refine blk_drewN ?_ _ | refine blk_drew ?_ | refine blk_alloc ?_ _)); exact BK153.out)) : gb153 ≠ gb161)); have n9_ := Aside0.mk ((by rw [hg]; exact Nat.ne_of_gt (blk_lt (g := gb153) (o := .cells #[.int .u64 0, .int .u64 0, .int .u64 0, .int .u64 0, .int .i64 0, .int .i64 0] 26 (0, 0)) (by (with_reducible repeat (first | refine blk_drewN ?_ _ | refine blk_drew ?_ | refine blk_alloc ?_ _)); exact BK153.out)) : gb161 ≠ gb153)); clear BK152; clear BK153; clear HB; have BK152 := n0_; have BK153 := n1_; have HB := n2_; have BK161 := n3_; have GW161 := n4_; have GE161 := n5_; have NB152_161 := n6_; have NB161_152 := n7_; have NB153_161 := n8_; have NB161_153 := n9_; clear n0_ n1_ n2_ n3_ n4_ n5_ n6_ n7_ n8_ n9_; clear hb hbox hg; have hnb20 := NB161_152.out; have hnc20 := NB152_161.out; have hnb21 := NB161_153.out; have hnc21 := NB153_161.out; have hcz22_0 : w19.cell? ⟨gb161, 0, none⟩ = some (.int .u64 0) := (blk_cell BK161.out 0).trans rfl; have hcz22_1 : w19.cell? ⟨gb161, 1, none⟩ = some (.int .u64 0) := (blk_cell BK161.out 1).trans rfl; have hcz22_2 : w19.cell? ⟨gb161, 2, none⟩ = some (.int .u64 0) := (blk_cell BK161.out 2).trans rfl; have hcz22_3 : w19.cell? ⟨gb161, 3, none⟩ = some (.int .u64 0) := (blk_cell BK161.out 3).trans rfl; have hcz22_4 : w19.cell? ⟨gb161, 4, none⟩ = some (.int .i64 0) := (blk_cell BK161.out 4).trans rfl; have hcz22_5 : w19.cell? ⟨gb161, 5, none⟩ = some (.int .i64 0) := (blk_cell BK161.out 5).trans rfl; have hfz22_0 := blk_frozen BK161.out 0; have hfz22_1 := blk_frozen BK161.out 1; have hfz22_2 := blk_frozen BK161.out 2; have hfz22_3 := blk_frozen BK161.out 3; have hfz22_4 := blk_frozen BK161.out 4; have hfz22_5 := blk_frozen BK161.out 5; have hnb23 := NB152_153.out; have hnc23 := NB153_152.out; have hcz24_0 : w19.cell? ⟨gb152, 0, none⟩ = some (.int .u64 a0_0) := (blk_cell BK152.out 0).trans rfl; have hcz24_1 : w19.cell? ⟨gb152, 1, none⟩ = some (.int .u64 a0_1) := (blk_cell BK152.out 1).trans rfl; have hcz24_2 : w19.cell? ⟨gb152, 2, none⟩ = some (.int .u64 a0_2) := (blk_cell BK152.out 2).trans rfl; have hcz24_3 : w19.cell? ⟨gb152, 3, none⟩ = some (.int .u64 a0_3) := (blk_cell BK152.out 3).trans rfl; have hcz24_4 : w19.cell? ⟨gb152, 4, none⟩ = some (.int .i64 a0_4) := (blk_cell BK152.out 4).trans rfl; have hcz24_5 : w19.cell? ⟨gb152, 5, none⟩ = some (.int .i64 a0_5) := (blk_cell BK152.out 5).trans rfl; have hfz24_0 := blk_frozen BK152.out 0; have hfz24_1 := blk_frozen BK152.out 1; have hfz24_2 := blk_frozen BK152.out 2; have hfz24_3 := blk_frozen BK152.out 3; have hfz24_4 := blk_frozen BK152.out 4; have hfz24_5 := blk_frozen BK152.out 5) | ((with_reducible refine gate_callee (f := 46) rfl ?_); refine goesL_ (some 18) rfl rfl Try.func46 (by kernel_rfl) rfl #[.agg #[.int .u64 a0_0, .int .u64 a0_1], .int .i64 a1] rfl (by (try simp only [List.map_toArray, List.map_cons, List.map_nil]); first | done | rfl | (simp only [List.length_drop, List.length_take]; rfl)) ?_; (with_reducible refine (tnum_Cut.calls a0_0 a0_1 a1 t162 t163 _ A13.out).mono ?_); rintro e w25 ⟨rfl, hb⟩; refine ⟨_, rfl, ?_⟩; have n0_ := Aside0.mk (blk_below (g := gb152) (o := .cells #[.int .u64 a0_0, .int .u64 a0_1, .int .u64 a0_2, .int .u64 a0_3, .int .i64 a0_4, .int .i64 a0_5] 26 (0, 0)) (by (with_reducible repeat (first | refine blk_drewN ?_ _ | refine blk_drew ?_ | refine blk_alloc ?_ _)); refine blk_far ?_ NB152_161.out _; (with_reducible repeat (first | refine blk_drewN ?_ _ | refine blk_drew ?_ | refine blk_alloc ?_ _)); refine blk_far ?_ NB152_161.out _; (with_reducible repeat (first | refine blk_drewN ?_ _ | refine blk_drew ?_ | refine blk_alloc ?_ _)); refine blk_far ?_ NB152_161.out _; (with_reducible repeat (first | refine blk_drewN ?_ _ | refine blk_drew ?_ | refine blk_alloc ?_ _)); refine blk_far ?_ NB152_161.out _; (with_reducible repeat (first | refine blk_drewN ?_ _ | refine blk_drew ?_ | refine blk_alloc ?_ _)); refine blk_far ?_ NB152_161.out _; (with_reducible repeat (first | refine blk_drewN ?_ _ | refine blk_drew ?_ | refine blk_alloc ?_ _)); refine blk_far ?_ NB152_161.out _; (with_reducible repeat (first | refine blk_drewN ?_ _ | refine blk_drew ?_ | refine blk_alloc ?_ _)); exact BK152.out) hb); have n1_ := Aside0.mk (blk_below (g := gb153) (o := .cells #[.int .u64 0, .int .u64 0, .int .u64 0, .int .u64 0, .int .i64 0, .int .i64 0] 26 (0, 0)) (by (with_reducible repeat (first | refine blk_drewN ?_ _ | refine blk_drew ?_ | refine blk_alloc ?_ _)); refine blk_far ?_ NB153_161.out _; (with_reducible repeat (first | refine blk_drewN ?_ _ | refine blk_drew ?_ | refine blk_alloc ?_ _)); refine blk_far ?_ NB153_161.out _; (with_reducible repeat (first | refine blk_drewN ?_ _ | refine blk_drew ?_ | refine blk_alloc ?_ _)); refine blk_far ?_ NB153_161.out _; (with_reducible repeat (first | refine blk_drewN ?_ _ | refine blk_drew ?_ | refine blk_alloc ?_ _)); refine blk_far ?_ NB153_161.out _; (with_reducible repeat (first | refine blk_drewN ?_ _ | refine blk_drew ?_ | refine blk_alloc ?_ _)); refine blk_far ?_ NB153_161.out _; (with_reducible repeat (first | refine blk_drewN ?_ _ | refine blk_drew ?_ | refine blk_alloc ?_ _)); refine blk_far ?_ NB153_161.out _; (with_reducible repeat (first | refine blk_drewN ?_ _ | refine blk_drew ?_ | refine blk_alloc ?_ _)); exact BK153.out) hb); have n2_ := Aside0.mk (blk_below (g := gb161) (o := .cells #[.int .u64 t155, .int .u64 t156, .int .u64 t157, .int .u64 t158, .int .i64 t159, .int .i64 t160] 26 (0, 0)) (by (with_reducible repeat (first | refine blk_drewN ?_ _ | refine blk_drew ?_ | refine blk_alloc ?_ _)); refine blk_put (cs := #[.int .u64 t155, .int .u64 t156, .int .u64 t157, .int .u64 t158, .int .i64 t159, .int .i64 0]) ?_ 5 _ rfl; (with_reducible repeat (first | refine blk_drewN ?_ _ | refine blk_drew ?_ | refine blk_alloc ?_ _)); refine blk_put (cs := #[.int .u64 t155, .int .u64 t156, .int .u64 t157, .int .u64 t158, .int .i64 0, .int .i64 0]) ?_ 4 _ rfl; (with_reducible repeat (first | refine blk_drewN ?_ _ | refine blk_drew ?_ | refine blk_alloc ?_ _)); refine blk_put (cs := #[.int .u64 t155, .int .u64 t156, .int .u64 t157, .int .u64 0, .int .i64 0, .int .i64 0]) ?_ 3 _ rfl; (with_reducible repeat (first | refine blk_drewN ?_ _ | refine blk_drew ?_ | refine blk_alloc ?_ _)); refine blk_put (cs := #[.int .u64 t155, .int .u64 t156, .int .u64 0, .int .u64 0, .int .i64 0, .int .i64 0]) ?_ 2 _ rfl; (with_reducible repeat (first | refine blk_drewN ?_ _ | refine blk_drew ?_ | refine blk_alloc ?_ _)); refine blk_put (cs := #[.int .u64 t155, .int .u64 0, .int .u64 0, .int .u64 0, .int .i64 0, .int .i64 0]) ?_ 1 _ rfl; (with_reducible repeat (first | refine blk_drewN ?_ _ | refine blk_drew ?_ | refine blk_alloc ?_ _)); refine blk_put (cs := #[.int .u64 0, .int .u64 0, .int .u64 0, .int .u64 0, .int .i64 0, .int .i64 0]) ?_ 0 _ rfl; (with_reducible repeat (first | refine blk_drewN ?_ _ | refine blk_drew ?_ | refine blk_alloc ?_ _)); exact BK161.out) hb); have n3_ := Aside0.mk (below_step (by repeat (first | (with_reducible first | exact HB.out | apply below_alloc | apply pw_below_drewN | apply below_drew1 | refine below_set ?_ GE152.out | refine below_set ?_ GE153.out | refine below_set ?_ GE161.out) | exact HB.out)) hb); clear BK152; clear BK153; clear BK161; clear HB; have BK152 := n0_; have BK153 := n1_; have BK161 := n2_; have HB := n3_; clear n0_ n1_ n2_ n3_; (try clear hb); (try clear hb2); (try clear hk); (try clear hi)) | ((with_reducible refine gate_callee (f := 47) rfl ?_); refine goesL_ (some 21) rfl rfl Try.func47 (by kernel_rfl) rfl #[.int .i64 (wrap64 (8 * a1))] rfl (by (try simp only [List.map_toArray, List.map_cons, List.map_nil]); first | done | rfl | (simp only [List.length_drop, List.length_take]; rfl)) ?_; (with_reducible refine (words_Low.calls (wrap64 (8 * a1)) t164 _ A14.out).mono ?_); rintro e w' ⟨rfl, ⟨nd, rfl⟩⟩; refine ⟨_, rfl, ?_⟩; (try (rw [drewN_self w25]; generalize hq_ : World.drewN w25 _ = w25; have n0_ : Aside0 (w25.heap[gb152]? = some (.cells #[.int .u64 a0_0, .int .u64 a0_1, .int .u64 a0_2, .int .u64 a0_3, .int .i64 a0_4, .int .i64 a0_5] 26 (0, 0))) := ⟨by rw [← hq_]; exact (by (with_reducible repeat (first | refine blk_drewN ?_ _ | refine blk_drew ?_ | refine blk_alloc ?_ _)); exact BK152.out)⟩; have n1_ : Aside0 (w25.heap[gb153]? = some (.cells #[.int .u64 0, .int .u64 0, .int .u64 0, .int .u64 0, .int .i64 0, .int .i64 0] 26 (0, 0))) := ⟨by rw [← hq_]; exact (by (with_reducible repeat (first | refine blk_drewN ?_ _ | refine blk_drew ?_ | refine blk_alloc ?_ _)); exact BK153.out)⟩; have n2_ : Aside0 (w25.heap[gb161]? = some (.cells #[.int .u64 t155, .int .u64 t156, .int .u64 t157, .int .u64 t158, .int .i64 t159, .int .i64 t160] 26 (0, 0))) := ⟨by rw [← hq_]; exact (by (with_reducible repeat (first | refine blk_drewN ?_ _ | refine blk_drew ?_ | refine blk_alloc ?_ _)); exact BK161.out)⟩; have n3_ : Aside0 (Below w.heap.size w w25) := ⟨by rw [← hq_]; exact (by repeat (first | (with_reducible first | exact HB.out | apply below_alloc | apply pw_below_drewN | apply below_drew1 | refine below_set ?_ GE152.out | refine below_set ?_ GE153.out | refine below_set ?_ GE161.out) | exact HB.out))⟩; clear BK152 BK153 BK161 HB hq_; have BK152 := n0_; have BK153 := n1_; have BK161 := n2_; have HB := n3_; clear n0_ n1_ n2_ n3_)); have hcz26_0 : w25.cell? ⟨gb161, 0, none⟩ = some (.int .u64 t155) := (blk_cell BK161.out 0).trans rfl; have hcz26_1 : w25.cell? ⟨gb161, 1, none⟩ = some (.int .u64 t156) := (blk_cell BK161.out 1).trans rfl; have hcz26_2 : w25.cell? ⟨gb161, 2, none⟩ = some (.int .u64 t157) := (blk_cell BK161.out 2).trans rfl; have hcz26_3 : w25.cell? ⟨gb161, 3, none⟩ = some (.int .u64 t158) := (blk_cell BK161.out 3).trans rfl; have hcz26_4 : w25.cell? ⟨gb161, 4, none⟩ = some (.int .i64 t159) := (blk_cell BK161.out 4).trans rfl; have hcz26_5 : w25.cell? ⟨gb161, 5, none⟩ = some (.int .i64 t160) := (blk_cell BK161.out 5).trans rfl; have hfz26_0 := blk_frozen BK161.out 0; have hfz26_1 := blk_frozen BK161.out 1; have hfz26_2 := blk_frozen BK161.out 2; have hfz26_3 := blk_frozen BK161.out 3; have hfz26_4 := blk_frozen BK161.out 4; have hfz26_5 := blk_frozen BK161.out 5; have hcz27_0 : w25.cell? ⟨gb152, 0, none⟩ = some (.int .u64 a0_0) := (blk_cell BK152.out 0).trans rfl; have hcz27_1 : w25.cell? ⟨gb152, 1, none⟩ = some (.int .u64 a0_1) := (blk_cell BK152.out 1).trans rfl; have hcz27_2 : w25.cell? ⟨gb152, 2, none⟩ = some (.int .u64 a0_2) := (blk_cell BK152.out 2).trans rfl; have hcz27_3 : w25.cell? ⟨gb152, 3, none⟩ = some (.int .u64 a0_3) := (blk_cell BK152.out 3).trans rfl; have hcz27_4 : w25.cell? ⟨gb152, 4, none⟩ = some (.int .i64 a0_4) := (blk_cell BK152.out 4).trans rfl; have hcz27_5 : w25.cell? ⟨gb152, 5, none⟩ = some (.int .i64 a0_5) := (blk_cell BK152.out 5).trans rfl; have hfz27_0 := blk_frozen BK152.out 0; have hfz27_1 := blk_frozen BK152.out 1; have hfz27_2 := blk_frozen BK152.out 2; have hfz27_3 := blk_frozen BK152.out 3; have hfz27_4 := blk_frozen BK152.out 4; have hfz27_5 := blk_frozen BK152.out 5) | ((with_reducible refine gate_callee (f := 48) rfl ?_); refine goesL_ (some 26) rfl rfl Try.func48 (by kernel_rfl) rfl #[.agg #[.int .u64 a0_0, .int .u64 a0_1, .int .u64 a0_2, .int .u64 a0_3, .int .i64 a0_4, .int .i64 a0_5], .int .i64 a1] rfl (by (try simp only [List.map_toArray, List.map_cons, List.map_nil]); first | done | rfl | (simp only [List.length_drop, List.length_take]; rfl)) ?_; (with_reducible refine (num_Low.calls a0_0 a0_1 a0_2 a0_3 a0_4 a0_5 a1 true _ A15.out).mono ?_); rintro e w28 ⟨rfl, hb⟩; refine ⟨_, rfl, ?_⟩; have n0_ := Aside0.mk (blk_below (g := gb152) (o := .cells #[.int .u64 a0_0, .int .u64 a0_1, .int .u64 a0_2, .int .u64 a0_3, .int .i64 a0_4, .int .i64 a0_5] 26 (0, 0)) (by (with_reducible repeat (first | refine blk_drewN ?_ _ | refine blk_drew ?_ | refine blk_alloc ?_ _)); refine blk_far ?_ NB152_161.out _; (with_reducible repeat (first | refine blk_drewN ?_ _ | refine blk_drew ?_ | refine blk_alloc ?_ _)); refine blk_far ?_ NB152_161.out _; (with_reducible repeat (first | refine blk_drewN ?_ _ | refine blk_drew ?_ | refine blk_alloc ?_ _)); refine blk_far ?_ NB152_161.out _; (with_reducible repeat (first | refine blk_drewN ?_ _ | refine blk_drew ?_ | refine blk_alloc ?_ _)); exact BK152.out) hb); have n1_ := Aside0.mk (blk_below (g := gb153) (o := .cells #[.int .u64 0, .int .u64 0, .int .u64 0, .int .u64 0, .int .i64 0, .int .i64 0] 26 (0, 0)) (by (with_reducible repeat (first | refine blk_drewN ?_ _ | refine blk_drew ?_ | refine blk_alloc ?_ _)); refine blk_far ?_ NB153_161.out _; (with_reducible repeat (first | refine blk_drewN ?_ _ | refine blk_drew ?_ | refine blk_alloc ?_ _)); refine blk_far ?_ NB153_161.out _; (with_reducible repeat (first | refine blk_drewN ?_ _ | refine blk_drew ?_ | refine blk_alloc ?_ _)); refine blk_far ?_ NB153_161.out _; (with_reducible repeat (first | refine blk_drewN ?_ _ | refine blk_drew ?_ | refine blk_alloc ?_ _)); exact BK153.out) hb); have n2_ := Aside0.mk (blk_below (g := gb161) (o := .cells #[.int .u64 t162, .int .u64 t163, .int .u64 t157, .int .u64 t164, .int .i64 t159, .int .i64 t160] 26 (0, 0)) (by (with_reducible repeat (first | refine blk_drewN ?_ _ | refine blk_drew ?_ | refine blk_alloc ?_ _)); refine blk_put (cs := #[.int .u64 t162, .int .u64 t163, .int .u64 t157, .int .u64 t158, .int .i64 t159, .int .i64 t160]) ?_ 3 _ rfl; (with_reducible repeat (first | refine blk_drewN ?_ _ | refine blk_drew ?_ | refine blk_alloc ?_ _)); refine blk_put (cs := #[.int .u64 t162, .int .u64 t156, .int .u64 t157, .int .u64 t158, .int .i64 t159, .int .i64 t160]) ?_ 1 _ rfl; (with_reducible repeat (first | refine blk_drewN ?_ _ | refine blk_drew ?_ | refine blk_alloc ?_ _)); refine blk_put (cs := #[.int .u64 t155, .int .u64 t156, .int .u64 t157, .int .u64 t158, .int .i64 t159, .int .i64 t160]) ?_ 0 _ rfl; (with_reducible repeat (first | refine blk_drewN ?_ _ | refine blk_drew ?_ | refine blk_alloc ?_ _)); exact BK161.out) hb); have n3_ := Aside0.mk (below_step (by repeat (first | (with_reducible first | exact HB.out | apply below_alloc | apply pw_below_drewN | apply below_drew1 | refine below_set ?_ GE152.out | refine below_set ?_ GE153.out | refine below_set ?_ GE161.out) | exact HB.out)) hb); clear BK152; clear BK153; clear BK161; clear HB; have BK152 := n0_; have BK153 := n1_; have BK161 := n2_; have HB := n3_; clear n0_ n1_ n2_ n3_; (try clear hb); (try clear hb2); (try clear hk); (try clear hi)))
     have n0_ := Aside0.mk (blk_drew BK152.out)
     have n1_ := Aside0.mk (blk_drew BK153.out)
     have n2_ := Aside0.mk (blk_drew BK161.out)
     have n3_ := Aside0.mk (below_drew1 HB.out)
     clear BK152
     clear BK153
     clear BK161
     clear HB
     have BK152 := n0_
     have BK153 := n1_
     have BK161 := n2_
     have HB := n3_
     clear n0_ n1_ n2_ n3_
     refine start_ (n := 8) (S := fun w' => w'.cell? ⟨gb152, 0, none⟩ = some (.int .u64 a0_0) ∧ w'.cell? ⟨gb152, 1, none⟩ = some (.int .u64 a0_1) ∧ w'.cell? ⟨gb152, 2, none⟩ = some (.int .u64 a0_2) ∧ w'.cell? ⟨gb152, 3, none⟩ = some (.int .u64 a0_3) ∧ w'.cell? ⟨gb152, 4, none⟩ = some (.int .i64 a0_4) ∧ w'.cell? ⟨gb152, 5, none⟩ = some (.int .i64 a0_5)) (ds := []) #[false, false, false, false, false, false, false, false] (by kernel_rfl) rfl rfl ⟨(blk_cell BK152.out 0).trans rfl, (blk_cell BK152.out 1).trans rfl, (blk_cell BK152.out 2).trans rfl, (blk_cell BK152.out 3).trans rfl, (blk_cell BK152.out 4).trans rfl, (blk_cell BK152.out 5).trans rfl⟩ (fun hHeld => ?_); refine with_tabW num_Cut.tab6 num_Cut.bits6 (fun HT_ HW_ => ?_)
     generalize w28.drew = w29 at BK152 BK153 BK161 HB hHeld ⊢
     refine pure_ (i := 0) (N := some 27) (v := ?_) (a' := ?_) (Hp.up 8 1) rfl rfl (any_of HT_.out (by kernel_rfl)) (fun _ _ _ h => h) (Or.inl ⟨by rfl, ?_⟩) ?_ ?_
     rotate_left
     ·intro w'
      go_simp
      with_reducible rfl
     rotate_left
     ·simp only [Act.put, List.setIfInBounds_toArray, List.set_cons_zero, List.set_cons_succ, i64_w, i32_w]
      rfl
     refine pure_ (i := 2) (N := some 29) (v := ?_) (a' := ?_) #[true, false, true, false, false, false, false, false] rfl rfl (any_of HT_.out (by kernel_rfl)) (fun _ _ _ h => h) (Or.inl ⟨by rfl, ?_⟩) ?_ ?_
     rotate_left
     ·intro w'
      go_simp
      with_reducible rfl
     rotate_left
     ·simp only [Act.put, List.setIfInBounds_toArray, List.set_cons_zero, List.set_cons_succ, i64_w, i32_w]
      rfl
     refine take_ (i := 1) (N := some 28) (v := ?_) (a' := ?_) (Hp.up 8 3) rfl rfl (take_ofW HT_.out HW_.out (by kernel_rfl)) (fun _ _ _ h => h) (Or.inl ⟨by rfl, ?_⟩) hHeld ?_ ?_
     rotate_left
     ·rintro w' ⟨s0, s1, s2, s3, s4, s5⟩
      go_simp
      with_reducible rfl
     rotate_left
     ·simp only [Act.put, List.setIfInBounds_toArray, List.set_cons_zero, List.set_cons_succ, i64_w, i32_w]
      rfl
     refine pure_ (i := 4) (N := some 31) (v := ?_) (a' := ?_) #[true, true, true, false, true, false, false, false] rfl rfl (any_of HT_.out (by kernel_rfl)) (fun _ _ _ h => h) (Or.inl ⟨by rfl, ?_⟩) ?_ ?_
     rotate_left
     ·intro w'
      go_simp
      with_reducible rfl
     rotate_left
     ·simp only [Act.put, List.setIfInBounds_toArray, List.set_cons_zero, List.set_cons_succ, i64_w, i32_w]
      rfl
     refine take_ (i := 3) (N := some 30) (v := ?_) (a' := ?_) (Hp.up 8 5) rfl rfl (take_ofW HT_.out HW_.out (by kernel_rfl)) (fun _ _ _ h => h) (Or.inl ⟨by rfl, ?_⟩) hHeld ?_ ?_
     rotate_left
     ·rintro w' ⟨s0, s1, s2, s3, s4, s5⟩
      go_simp
      with_reducible rfl
     rotate_left
     ·simp only [Act.put, List.setIfInBounds_toArray, List.set_cons_zero, List.set_cons_succ, i64_w, i32_w]
      rfl
     refine one_ (i := 5) (N := none) (Hp.up 8 6) rfl rfl (one_of HT_.out (by kernel_rfl)) (by decide) (fun K hK => ?_)
     have hs30 : w29.cell? ⟨gb161, 2, none⟩ = some (.int .u64 t157) := (blk_cell BK161.out 2).trans rfl
     have hfs30 := blk_frozen BK161.out 2
     have hns30_0 := NB152_161.out
     have hns30_1 := NB153_161.out
     have hms30_0 := NB161_152.out
     have hms30_1 := NB161_153.out
     refine skip_ (w1 := ?_) (by rfl) rfl ?_ ?_
     rotate_left
     ·go_simp
      rfl
     refine hK.out _ _ ⟨((cell_far (p := ⟨gb161, _, none⟩) NB152_161.out _).trans (hHeld.1)), ((cell_far (p := ⟨gb161, _, none⟩) NB152_161.out _).trans (hHeld.2.1)), ((cell_far (p := ⟨gb161, _, none⟩) NB152_161.out _).trans (hHeld.2.2.1)), ((cell_far (p := ⟨gb161, _, none⟩) NB152_161.out _).trans (hHeld.2.2.2.1)), ((cell_far (p := ⟨gb161, _, none⟩) NB152_161.out _).trans (hHeld.2.2.2.2.1)), ((cell_far (p := ⟨gb161, _, none⟩) NB152_161.out _).trans (hHeld.2.2.2.2.2))⟩ (fun hHeld => ?_)
     clear hK K
     refine pure_ (i := 6) (N := some 32) (v := ?_) (a' := ?_) (Hp.up 8 7) rfl rfl (any_of HT_.out (by kernel_rfl)) (fun _ _ _ h => h) (Or.inl ⟨by rfl, ?_⟩) ?_ ?_
     rotate_left
     ·intro w'
      go_simp
      with_reducible rfl
     rotate_left
     ·simp only [Act.put, List.setIfInBounds_toArray, List.set_cons_zero, List.set_cons_succ, i64_w, i32_w]
      rfl
     refine one_ (i := 7) (N := none) (Hp.up 8 8) rfl rfl (one_of HT_.out (by kernel_rfl)) (by decide) (fun K hK => ?_)
     have hs31 : w29.cell? ⟨gb161, 3, none⟩ = some (.int .u64 t164) := (blk_cell BK161.out 3).trans rfl
     have hfs31 := blk_frozen BK161.out 3
     have hns31_0 := NB152_161.out
     have hns31_1 := NB153_161.out
     have hms31_0 := NB161_152.out
     have hms31_1 := NB161_153.out
     refine skip_ (w1 := ?_) (by rfl) rfl ?_ ?_
     rotate_left
     ·go_simp
      rfl
     refine hK.out _ _ ⟨((cell_far (p := ⟨gb161, _, none⟩) NB152_161.out _).trans (hHeld.1)), ((cell_far (p := ⟨gb161, _, none⟩) NB152_161.out _).trans (hHeld.2.1)), ((cell_far (p := ⟨gb161, _, none⟩) NB152_161.out _).trans (hHeld.2.2.1)), ((cell_far (p := ⟨gb161, _, none⟩) NB152_161.out _).trans (hHeld.2.2.2.1)), ((cell_far (p := ⟨gb161, _, none⟩) NB152_161.out _).trans (hHeld.2.2.2.2.1)), ((cell_far (p := ⟨gb161, _, none⟩) NB152_161.out _).trans (hHeld.2.2.2.2.2))⟩ (fun hHeld => ?_)
     clear hK K
     refine done_ (done_of HT_.out (by kernel_rfl)) ?_
     have hcz32_0 : w29.cell? ⟨gb161, 0, none⟩ = some (.int .u64 t162) := (blk_cell BK161.out 0).trans rfl
     have hcz32_1 : w29.cell? ⟨gb161, 1, none⟩ = some (.int .u64 t163) := (blk_cell BK161.out 1).trans rfl
     have hcz32_2 : w29.cell? ⟨gb161, 2, none⟩ = some (.int .u64 t157) := (blk_cell BK161.out 2).trans rfl
     have hcz32_3 : w29.cell? ⟨gb161, 3, none⟩ = some (.int .u64 t164) := (blk_cell BK161.out 3).trans rfl
     have hcz32_4 : w29.cell? ⟨gb161, 4, none⟩ = some (.int .i64 t159) := (blk_cell BK161.out 4).trans rfl
     have hcz32_5 : w29.cell? ⟨gb161, 5, none⟩ = some (.int .i64 t160) := (blk_cell BK161.out 5).trans rfl
     have hfz32_0 := blk_frozen BK161.out 0
     have hfz32_1 := blk_frozen BK161.out 1
     have hfz32_2 := blk_frozen BK161.out 2
     have hfz32_3 := blk_frozen BK161.out 3
     have hfz32_4 := blk_frozen BK161.out 4
     have hfz32_5 := blk_frozen BK161.out 5
     try go_wp2_with (first | ((with_reducible refine gate_callee (f := 49) rfl ?_); refine goesL_ (some 34) rfl rfl Try.func49 (by kernel_rfl) rfl #[.agg #[.int .u64 t162, .int .u64 t163, .int .u64 a0_2, .int .u64 a0_3, .int .i64 t159, .int .i64 t160]] rfl (by (try simp only [List.map_toArray, List.map_cons, List.map_nil]); first | done | rfl | (simp only [List.length_drop, List.length_take]; rfl)) ?_; (with_reducible refine (num_orAll.calls t162 t163 a0_2 a0_3 t159 t160 t166 t167 t168 t169 t170 t171 _ A17.out).mono ?_); rintro e w33 ⟨rfl, hb⟩; refine ⟨_, rfl, ?_⟩; have n0_ := Aside0.mk (blk_below (g := gb152) (o := .cells #[.int .u64 a0_0, .int .u64 a0_1, .int .u64 a0_2, .int .u64 a0_3, .int .i64 a0_4, .int .i64 a0_5] 26 (0, 0)) (by (with_reducible repeat (first | refine blk_drewN ?_ _ | refine blk_drew ?_ | refine blk_alloc ?_ _)); refine blk_far ?_ NB152_161.out _; (with_reducible repeat (first | refine blk_drewN ?_ _ | refine blk_drew ?_ | refine blk_alloc ?_ _)); refine blk_far ?_ NB152_161.out _; (with_reducible repeat (first | refine blk_drewN ?_ _ | refine blk_drew ?_ | refine blk_alloc ?_ _)); exact BK152.out) hb); have n1_ := Aside0.mk (blk_below (g := gb153) (o := .cells #[.int .u64 0, .int .u64 0, .int .u64 0, .int .u64 0, .int .i64 0, .int .i64 0] 26 (0, 0)) (by (with_reducible repeat (first | refine blk_drewN ?_ _ | refine blk_drew ?_ | refine blk_alloc ?_ _)); refine blk_far ?_ NB153_161.out _; (with_reducible repeat (first | refine blk_drewN ?_ _ | refine blk_drew ?_ | refine blk_alloc ?_ _)); refine blk_far ?_ NB153_161.out _; (with_reducible repeat (first | refine blk_drewN ?_ _ | refine blk_drew ?_ | refine blk_alloc ?_ _)); exact BK153.out) hb); have n2_ := Aside0.mk (blk_below (g := gb161) (o := .cells #[.int .u64 t162, .int .u64 t163, .int .u64 a0_2, .int .u64 a0_3, .int .i64 t159, .int .i64 t160] 26 (0, 0)) (by (with_reducible repeat (first | refine blk_drewN ?_ _ | refine blk_drew ?_ | refine blk_alloc ?_ _)); refine blk_put (cs := #[.int .u64 t162, .int .u64 t163, .int .u64 a0_2, .int .u64 t164, .int .i64 t159, .int .i64 t160]) ?_ 3 _ rfl; (with_reducible repeat (first | refine blk_drewN ?_ _ | refine blk_drew ?_ | refine blk_alloc ?_ _)); refine blk_put (cs := #[.int .u64 t162, .int .u64 t163, .int .u64 t157, .int .u64 t164, .int .i64 t159, .int .i64 t160]) ?_ 2 _ rfl; (with_reducible repeat (first | refine blk_drewN ?_ _ | refine blk_drew ?_ | refine blk_alloc ?_ _)); exact BK161.out) hb); have n3_ := Aside0.mk (below_step (by repeat (first | (with_reducible first | exact HB.out | apply below_alloc | apply pw_below_drewN | apply below_drew1 | refine below_set ?_ GE152.out | refine below_set ?_ GE153.out | refine below_set ?_ GE161.out) | exact HB.out)) hb); clear BK152; clear BK153; clear BK161; clear HB; have BK152 := n0_; have BK153 := n1_; have BK161 := n2_; have HB := n3_; clear n0_ n1_ n2_ n3_; (try clear hb); (try clear hb2); (try clear hk); (try clear hi); have hcz34_0 : w33.cell? ⟨gb153, 0, none⟩ = some (.int .u64 0) := (blk_cell BK153.out 0).trans rfl; have hcz34_1 : w33.cell? ⟨gb153, 1, none⟩ = some (.int .u64 0) := (blk_cell BK153.out 1).trans rfl; have hcz34_2 : w33.cell? ⟨gb153, 2, none⟩ = some (.int .u64 0) := (blk_cell BK153.out 2).trans rfl; have hcz34_3 : w33.cell? ⟨gb153, 3, none⟩ = some (.int .u64 0) := (blk_cell BK153.out 3).trans rfl; have hcz34_4 : w33.cell? ⟨gb153, 4, none⟩ = some (.int .i64 0) := (blk_cell BK153.out 4).trans rfl; have hcz34_5 : w33.cell? ⟨gb153, 5, none⟩ = some (.int .i64 0) := (blk_cell BK153.out 5).trans rfl; have hfz34_0 := blk_frozen BK153.out 0; have hfz34_1 := blk_frozen BK153.out 1; have hfz34_2 := blk_frozen BK153.out 2; have hfz34_3 := blk_frozen BK153.out 3; have hfz34_4 := blk_frozen BK153.out 4; have hfz34_5 := blk_frozen BK153.out 5))
     refine bodyPost_ret (results_cell_row rfl _ _ gb153 26 #[.int .u64 t166, .int .u64 t167, .int .u64 t168, .int .u64 t169, .int .i64 t170, .int .i64 t171] (0, 0) _ rfl (by (with_reducible repeat (first | refine blk_drewN ?_ _ | refine blk_drew ?_ | refine blk_alloc ?_ _)); refine blk_put (cs := #[.int .u64 t166, .int .u64 t167, .int .u64 t168, .int .u64 t169, .int .i64 t170, .int .i64 0]) ?_ 5 _ rfl; (with_reducible repeat (first | refine blk_drewN ?_ _ | refine blk_drew ?_ | refine blk_alloc ?_ _)); refine blk_put (cs := #[.int .u64 t166, .int .u64 t167, .int .u64 t168, .int .u64 t169, .int .i64 0, .int .i64 0]) ?_ 4 _ rfl; (with_reducible repeat (first | refine blk_drewN ?_ _ | refine blk_drew ?_ | refine blk_alloc ?_ _)); refine blk_put (cs := #[.int .u64 t166, .int .u64 t167, .int .u64 t168, .int .u64 0, .int .i64 0, .int .i64 0]) ?_ 3 _ rfl; (with_reducible repeat (first | refine blk_drewN ?_ _ | refine blk_drew ?_ | refine blk_alloc ?_ _)); refine blk_put (cs := #[.int .u64 t166, .int .u64 t167, .int .u64 0, .int .u64 0, .int .i64 0, .int .i64 0]) ?_ 2 _ rfl; (with_reducible repeat (first | refine blk_drewN ?_ _ | refine blk_drew ?_ | refine blk_alloc ?_ _)); refine blk_put (cs := #[.int .u64 t166, .int .u64 0, .int .u64 0, .int .u64 0, .int .i64 0, .int .i64 0]) ?_ 1 _ rfl; (with_reducible repeat (first | refine blk_drewN ?_ _ | refine blk_drew ?_ | refine blk_alloc ?_ _)); refine blk_put (cs := #[.int .u64 0, .int .u64 0, .int .u64 0, .int .u64 0, .int .i64 0, .int .i64 0]) ?_ 0 _ rfl; (with_reducible repeat (first | refine blk_drewN ?_ _ | refine blk_drew ?_ | refine blk_alloc ?_ _)); exact BK153.out) Try.underlying26 rfl (by kernel_rfl)) rfl ?_
     exact ⟨by first | rfl | (simp [errW_none, errW_some] <;> rfl) | (simp [*, errW_none, errW_some] <;> rfl), by repeat (first | (with_reducible first | exact HB.out | apply below_alloc | apply pw_below_drewN | apply below_drew1 | refine below_set ?_ GE152.out | refine below_set ?_ GE153.out | refine below_set ?_ GE161.out) | exact HB.out)⟩
    ·replace c16 := Bool.eq_false_iff.mpr c16
     subst c16
     have H1 : ((num_orAll.f t162 t163 t157 t164 t159 t160).bind fun bt172 => (some (bt172.1, bt172.2.1, bt172.2.2.1, bt172.2.2.2.1, bt172.2.2.2.2.1, bt172.2.2.2.2.2))) = some (r1, r2, r3, r4, r5, r6) := by rw [if_neg (show ¬ (false = true) by decide)] at H; exact H
     clear H
     have H := H1
     clear H1
     replace H := Option.bind_eq_some_iff.mp H
     obtain ⟨⟨t172, t173, t174, t175, t176, t177⟩, A350, H⟩ := H
     replace H : (some (t172, t173, t174, t175, t176, t177)) = some (r1, r2, r3, r4, r5, r6) := H
     have A35 := Aside0.mk A350
     clear A350
     simp only [Option.some.injEq, Prod.mk.injEq] at H
     obtain ⟨rfl, rfl, rfl, rfl, rfl, rfl⟩ := H
     go_wp2_with (first | ((with_reducible refine gate_callee (f := 15) rfl ?_); refine goesL_ (some 14) rfl rfl Try.func15 (by kernel_rfl) rfl #[] rfl (by (try simp only [List.map_toArray, List.map_cons, List.map_nil]); first | done | rfl | (simp only [List.length_drop, List.length_take]; rfl)) ?_; (with_reducible refine (num_All.calls  t155 t156 t157 t158 t159 t160 _ A12.out).mono ?_); rintro e w36 ⟨rfl, hb⟩; refine ⟨_, rfl, ?_⟩; have n0_ := Aside0.mk (blk_below (g := gb152) (o := .cells #[.int .u64 a0_0, .int .u64 a0_1, .int .u64 a0_2, .int .u64 a0_3, .int .i64 a0_4, .int .i64 a0_5] 26 (0, 0)) (by (with_reducible repeat (first | refine blk_drewN ?_ _ | refine blk_drew ?_ | refine blk_alloc ?_ _)); exact BK152.out) hb); have n1_ := Aside0.mk (blk_below (g := gb153) (o := .cells #[.int .u64 0, .int .u64 0, .int .u64 0, .int .u64 0, .int .i64 0, .int .i64 0] 26 (0, 0)) (by (with_reducible repeat (first | refine blk_drewN ?_ _ | refine blk_drew ?_ | refine blk_alloc ?_ _)); exact BK153.out) hb); have n2_ := Aside0.mk (below_step (by repeat (first | (with_reducible first | exact HB.out | apply below_alloc | apply pw_below_drewN | apply below_drew1 | refine below_set ?_ GE152.out | refine below_set ?_ GE153.out) | exact HB.out)) hb); clear BK152; clear BK153; clear HB; have BK152 := n0_; have BK153 := n1_; have HB := n2_; clear n0_ n1_ n2_; (try clear hb); (try clear hb2); (try clear hk); (try clear hi)) | ((with_reducible refine gate_dst (N := 5) rfl ?_); refine box_event ?hg (N := 5) ?hd (cs := #[.int .u64 0, .int .u64 0, .int .u64 0, .int .u64 0, .int .i64 0, .int .i64 0]) (t := 26) ?hr ?_; (case hd => rfl); (case hg => rfl); (case hr => first | (go_simp; done) | (go_simp; rfl)); intro gb161 hg w37 hbox hb; have n0_ := Aside0.mk (blk_below (g := gb152) (o := .cells #[.int .u64 a0_0, .int .u64 a0_1, .int .u64 a0_2, .int .u64 a0_3, .int .i64 a0_4, .int .i64 a0_5] 26 (0, 0)) (by (with_reducible repeat (first | refine blk_drewN ?_ _ | refine blk_drew ?_ | refine blk_alloc ?_ _)); exact BK152.out) hb); have n1_ := Aside0.mk (blk_below (g := gb153) (o := .cells #[.int .u64 0, .int .u64 0, .int .u64 0, .int .u64 0, .int .i64 0, .int .i64 0] 26 (0, 0)) (by (with_reducible repeat (first | refine blk_drewN ?_ _ | refine blk_drew ?_ | refine blk_alloc ?_ _)); exact BK153.out) hb); have n2_ := Aside0.mk (below_step (by repeat (first | (with_reducible first | exact HB.out | apply below_alloc | apply pw_below_drewN | apply below_drew1 | refine below_set ?_ GE152.out | refine below_set ?_ GE153.out) | exact HB.out)) hb); have n3_ := Aside0.mk (hbox); have n4_ := Aside0.mk ((by rw [hg]; exact (below_size (by repeat (first | (with_reducible first | exact HB.out | apply below_alloc | apply pw_below_drewN | apply below_drew1 | refine below_set ?_ GE152.out | refine below_set ?_ GE153.out) | exact HB.out))) : w.heap.size ≤ gb161)); have n5_ := Aside0.mk ((by rw [hg]; exact (below_size (by repeat (first | (with_reducible first | exact HB.out | apply below_alloc | apply pw_below_drewN | apply below_drew1 | refine below_set ?_ GE152.out | refine below_set ?_ GE153.out) | exact HB.out))) : w.heap.size ≤ gb161)); have n6_ := Aside0.mk ((by rw [hg]; exact Nat.ne_of_lt (blk_lt (g := gb152) (o := .cells #[.int .u64 a0_0, .int .u64 a0_1, .int .u64 a0_2, .int .u64 a0_3, .int .i64 a0_4, .int .i64 a0_5] 26 (0, 0)) (by (with_reducible repeat (first | refine blk_drewN ?_ _ | refine blk_drew ?_ | refine blk_alloc ?_ _)); exact BK152.out)) : gb152 ≠ gb161)); have n7_ := Aside0.mk ((by rw [hg]; exact Nat.ne_of_gt (blk_lt (g := gb152) (o := .cells #[.int .u64 a0_0, .int .u64 a0_1, .int .u64 a0_2, .int .u64 a0_3, .int .i64 a0_4, .int .i64 a0_5] 26 (0, 0)) (by (with_reducible repeat (first | refine blk_drewN ?_ _ | refine blk_drew ?_ | refine blk_alloc ?_ _)); exact BK152.out)) : gb161 ≠ gb152)); have n8_ := Aside0.mk ((by rw [hg]; exact Nat.ne_of_lt (blk_lt (g := gb153) (o := .cells #[.int .u64 0, .int .u64 0, .int .u64 0, .int .u64 0, .int .i64 0, .int .i64 0] 26 (0, 0)) (by (with_reducible repeat (first | refine blk_drewN ?_ _ | refine blk_drew ?_ | refine blk_alloc ?_ _)); exact BK153.out)) : gb153 ≠ gb161)); have n9_ := Aside0.mk ((by rw [hg]; exact Nat.ne_of_gt (blk_lt (g := gb153) (o := .cells #[.int .u64 0, .int .u64 0, .int .u64 0, .int .u64 0, .int .i64 0, .int .i64 0] 26 (0, 0)) (by (with_reducible repeat (first | refine blk_drewN ?_ _ | refine blk_drew ?_ | refine blk_alloc ?_ _)); exact BK153.out)) : gb161 ≠ gb153)); clear BK152; clear BK153; clear HB; have BK152 := n0_; have BK153 := n1_; have HB := n2_; have BK161 := n3_; have GW161 := n4_; have GE161 := n5_; have NB152_161 := n6_; have NB161_152 := n7_; have NB153_161 := n8_; have NB161_153 := n9_; clear n0_ n1_ n2_ n3_ n4_ n5_ n6_ n7_ n8_ n9_; clear hb hbox hg; have hnb38 := NB161_152.out; have hnc38 := NB152_161.out; have hnb39 := NB161_153.out; have hnc39 := NB153_161.out; have hcz40_0 : w37.cell? ⟨gb161, 0, none⟩ = some (.int .u64 0) := (blk_cell BK161.out 0).trans rfl; have hcz40_1 : w37.cell? ⟨gb161, 1, none⟩ = some (.int .u64 0) := (blk_cell BK161.out 1).trans rfl; have hcz40_2 : w37.cell? ⟨gb161, 2, none⟩ = some (.int .u64 0) := (blk_cell BK161.out 2).trans rfl; have hcz40_3 : w37.cell? ⟨gb161, 3, none⟩ = some (.int .u64 0) := (blk_cell BK161.out 3).trans rfl; have hcz40_4 : w37.cell? ⟨gb161, 4, none⟩ = some (.int .i64 0) := (blk_cell BK161.out 4).trans rfl; have hcz40_5 : w37.cell? ⟨gb161, 5, none⟩ = some (.int .i64 0) := (blk_cell BK161.out 5).trans rfl; have hfz40_0 := blk_frozen BK161.out 0; have hfz40_1 := blk_frozen BK161.out 1; have hfz40_2 := blk_frozen BK161.out 2; have hfz40_3 := blk_frozen BK161.out 3; have hfz40_4 := blk_frozen BK161.out 4; have hfz40_5 := blk_frozen BK161.out 5; have hnb41 := NB152_153.out; have hnc41 := NB153_152.out; have hcz42_0 : w37.cell? ⟨gb152, 0, none⟩ = some (.int .u64 a0_0) := (blk_cell BK152.out 0).trans rfl; have hcz42_1 : w37.cell? ⟨gb152, 1, none⟩ = some (.int .u64 a0_1) := (blk_cell BK152.out 1).trans rfl; have hcz42_2 : w37.cell? ⟨gb152, 2, none⟩ = some (.int .u64 a0_2) := (blk_cell BK152.out 2).trans rfl; have hcz42_3 : w37.cell? ⟨gb152, 3, none⟩ = some (.int .u64 a0_3) := (blk_cell BK152.out 3).trans rfl; have hcz42_4 : w37.cell? ⟨gb152, 4, none⟩ = some (.int .i64 a0_4) := (blk_cell BK152.out 4).trans rfl; have hcz42_5 : w37.cell? ⟨gb152, 5, none⟩ = some (.int .i64 a0_5) := (blk_cell BK152.out 5).trans rfl; have hfz42_0 := blk_frozen BK152.out 0; have hfz42_1 := blk_frozen BK152.out 1; have hfz42_2 := blk_frozen BK152.out 2; have hfz42_3 := blk_frozen BK152.out 3; have hfz42_4 := blk_frozen BK152.out 4; have hfz42_5 := blk_frozen BK152.out 5) | ((with_reducible refine gate_callee (f := 46) rfl ?_); refine goesL_ (some 18) rfl rfl Try.func46 (by kernel_rfl) rfl #[.agg #[.int .u64 a0_0, .int .u64 a0_1], .int .i64 a1] rfl (by (try simp only [List.map_toArray, List.map_cons, List.map_nil]); first | done | rfl | (simp only [List.length_drop, List.length_take]; rfl)) ?_; (with_reducible refine (tnum_Cut.calls a0_0 a0_1 a1 t162 t163 _ A13.out).mono ?_); rintro e w43 ⟨rfl, hb⟩; refine ⟨_, rfl, ?_⟩; have n0_ := Aside0.mk (blk_below (g := gb152) (o := .cells #[.int .u64 a0_0, .int .u64 a0_1, .int .u64 a0_2, .int .u64 a0_3, .int .i64 a0_4, .int .i64 a0_5] 26 (0, 0)) (by (with_reducible repeat (first | refine blk_drewN ?_ _ | refine blk_drew ?_ | refine blk_alloc ?_ _)); refine blk_far ?_ NB152_161.out _; (with_reducible repeat (first | refine blk_drewN ?_ _ | refine blk_drew ?_ | refine blk_alloc ?_ _)); refine blk_far ?_ NB152_161.out _; (with_reducible repeat (first | refine blk_drewN ?_ _ | refine blk_drew ?_ | refine blk_alloc ?_ _)); refine blk_far ?_ NB152_161.out _; (with_reducible repeat (first | refine blk_drewN ?_ _ | refine blk_drew ?_ | refine blk_alloc ?_ _)); refine blk_far ?_ NB152_161.out _; (with_reducible repeat (first | refine blk_drewN ?_ _ | refine blk_drew ?_ | refine blk_alloc ?_ _)); refine blk_far ?_ NB152_161.out _; (with_reducible repeat (first | refine blk_drewN ?_ _ | refine blk_drew ?_ | refine blk_alloc ?_ _)); refine blk_far ?_ NB152_161.out _; (with_reducible repeat (first | refine blk_drewN ?_ _ | refine blk_drew ?_ | refine blk_alloc ?_ _)); exact BK152.out) hb); have n1_ := Aside0.mk (blk_below (g := gb153) (o := .cells #[.int .u64 0, .int .u64 0, .int .u64 0, .int .u64 0, .int .i64 0, .int .i64 0] 26 (0, 0)) (by (with_reducible repeat (first | refine blk_drewN ?_ _ | refine blk_drew ?_ | refine blk_alloc ?_ _)); refine blk_far ?_ NB153_161.out _; (with_reducible repeat (first | refine blk_drewN ?_ _ | refine blk_drew ?_ | refine blk_alloc ?_ _)); refine blk_far ?_ NB153_161.out _; (with_reducible repeat (first | refine blk_drewN ?_ _ | refine blk_drew ?_ | refine blk_alloc ?_ _)); refine blk_far ?_ NB153_161.out _; (with_reducible repeat (first | refine blk_drewN ?_ _ | refine blk_drew ?_ | refine blk_alloc ?_ _)); refine blk_far ?_ NB153_161.out _; (with_reducible repeat (first | refine blk_drewN ?_ _ | refine blk_drew ?_ | refine blk_alloc ?_ _)); refine blk_far ?_ NB153_161.out _; (with_reducible repeat (first | refine blk_drewN ?_ _ | refine blk_drew ?_ | refine blk_alloc ?_ _)); refine blk_far ?_ NB153_161.out _; (with_reducible repeat (first | refine blk_drewN ?_ _ | refine blk_drew ?_ | refine blk_alloc ?_ _)); exact BK153.out) hb); have n2_ := Aside0.mk (blk_below (g := gb161) (o := .cells #[.int .u64 t155, .int .u64 t156, .int .u64 t157, .int .u64 t158, .int .i64 t159, .int .i64 t160] 26 (0, 0)) (by (with_reducible repeat (first | refine blk_drewN ?_ _ | refine blk_drew ?_ | refine blk_alloc ?_ _)); refine blk_put (cs := #[.int .u64 t155, .int .u64 t156, .int .u64 t157, .int .u64 t158, .int .i64 t159, .int .i64 0]) ?_ 5 _ rfl; (with_reducible repeat (first | refine blk_drewN ?_ _ | refine blk_drew ?_ | refine blk_alloc ?_ _)); refine blk_put (cs := #[.int .u64 t155, .int .u64 t156, .int .u64 t157, .int .u64 t158, .int .i64 0, .int .i64 0]) ?_ 4 _ rfl; (with_reducible repeat (first | refine blk_drewN ?_ _ | refine blk_drew ?_ | refine blk_alloc ?_ _)); refine blk_put (cs := #[.int .u64 t155, .int .u64 t156, .int .u64 t157, .int .u64 0, .int .i64 0, .int .i64 0]) ?_ 3 _ rfl; (with_reducible repeat (first | refine blk_drewN ?_ _ | refine blk_drew ?_ | refine blk_alloc ?_ _)); refine blk_put (cs := #[.int .u64 t155, .int .u64 t156, .int .u64 0, .int .u64 0, .int .i64 0, .int .i64 0]) ?_ 2 _ rfl; (with_reducible repeat (first | refine blk_drewN ?_ _ | refine blk_drew ?_ | refine blk_alloc ?_ _)); refine blk_put (cs := #[.int .u64 t155, .int .u64 0, .int .u64 0, .int .u64 0, .int .i64 0, .int .i64 0]) ?_ 1 _ rfl; (with_reducible repeat (first | refine blk_drewN ?_ _ | refine blk_drew ?_ | refine blk_alloc ?_ _)); refine blk_put (cs := #[.int .u64 0, .int .u64 0, .int .u64 0, .int .u64 0, .int .i64 0, .int .i64 0]) ?_ 0 _ rfl; (with_reducible repeat (first | refine blk_drewN ?_ _ | refine blk_drew ?_ | refine blk_alloc ?_ _)); exact BK161.out) hb); have n3_ := Aside0.mk (below_step (by repeat (first | (with_reducible first | exact HB.out | apply below_alloc | apply pw_below_drewN | apply below_drew1 | refine below_set ?_ GE152.out | refine below_set ?_ GE153.out | refine below_set ?_ GE161.out) | exact HB.out)) hb); clear BK152; clear BK153; clear BK161; clear HB; have BK152 := n0_; have BK153 := n1_; have BK161 := n2_; have HB := n3_; clear n0_ n1_ n2_ n3_; (try clear hb); (try clear hb2); (try clear hk); (try clear hi)) | ((with_reducible refine gate_callee (f := 47) rfl ?_); refine goesL_ (some 21) rfl rfl Try.func47 (by kernel_rfl) rfl #[.int .i64 (wrap64 (8 * a1))] rfl (by (try simp only [List.map_toArray, List.map_cons, List.map_nil]); first | done | rfl | (simp only [List.length_drop, List.length_take]; rfl)) ?_; (with_reducible refine (words_Low.calls (wrap64 (8 * a1)) t164 _ A14.out).mono ?_); rintro e w' ⟨rfl, ⟨nd, rfl⟩⟩; refine ⟨_, rfl, ?_⟩; (try (rw [drewN_self w43]; generalize hq_ : World.drewN w43 _ = w43; have n0_ : Aside0 (w43.heap[gb152]? = some (.cells #[.int .u64 a0_0, .int .u64 a0_1, .int .u64 a0_2, .int .u64 a0_3, .int .i64 a0_4, .int .i64 a0_5] 26 (0, 0))) := ⟨by rw [← hq_]; exact (by (with_reducible repeat (first | refine blk_drewN ?_ _ | refine blk_drew ?_ | refine blk_alloc ?_ _)); exact BK152.out)⟩; have n1_ : Aside0 (w43.heap[gb153]? = some (.cells #[.int .u64 0, .int .u64 0, .int .u64 0, .int .u64 0, .int .i64 0, .int .i64 0] 26 (0, 0))) := ⟨by rw [← hq_]; exact (by (with_reducible repeat (first | refine blk_drewN ?_ _ | refine blk_drew ?_ | refine blk_alloc ?_ _)); exact BK153.out)⟩; have n2_ : Aside0 (w43.heap[gb161]? = some (.cells #[.int .u64 t155, .int .u64 t156, .int .u64 t157, .int .u64 t158, .int .i64 t159, .int .i64 t160] 26 (0, 0))) := ⟨by rw [← hq_]; exact (by (with_reducible repeat (first | refine blk_drewN ?_ _ | refine blk_drew ?_ | refine blk_alloc ?_ _)); exact BK161.out)⟩; have n3_ : Aside0 (Below w.heap.size w w43) := ⟨by rw [← hq_]; exact (by repeat (first | (with_reducible first | exact HB.out | apply below_alloc | apply pw_below_drewN | apply below_drew1 | refine below_set ?_ GE152.out | refine below_set ?_ GE153.out | refine below_set ?_ GE161.out) | exact HB.out))⟩; clear BK152 BK153 BK161 HB hq_; have BK152 := n0_; have BK153 := n1_; have BK161 := n2_; have HB := n3_; clear n0_ n1_ n2_ n3_)); have hcz44_0 : w43.cell? ⟨gb161, 0, none⟩ = some (.int .u64 t155) := (blk_cell BK161.out 0).trans rfl; have hcz44_1 : w43.cell? ⟨gb161, 1, none⟩ = some (.int .u64 t156) := (blk_cell BK161.out 1).trans rfl; have hcz44_2 : w43.cell? ⟨gb161, 2, none⟩ = some (.int .u64 t157) := (blk_cell BK161.out 2).trans rfl; have hcz44_3 : w43.cell? ⟨gb161, 3, none⟩ = some (.int .u64 t158) := (blk_cell BK161.out 3).trans rfl; have hcz44_4 : w43.cell? ⟨gb161, 4, none⟩ = some (.int .i64 t159) := (blk_cell BK161.out 4).trans rfl; have hcz44_5 : w43.cell? ⟨gb161, 5, none⟩ = some (.int .i64 t160) := (blk_cell BK161.out 5).trans rfl; have hfz44_0 := blk_frozen BK161.out 0; have hfz44_1 := blk_frozen BK161.out 1; have hfz44_2 := blk_frozen BK161.out 2; have hfz44_3 := blk_frozen BK161.out 3; have hfz44_4 := blk_frozen BK161.out 4; have hfz44_5 := blk_frozen BK161.out 5; have hcz45_0 : w43.cell? ⟨gb152, 0, none⟩ = some (.int .u64 a0_0) := (blk_cell BK152.out 0).trans rfl; have hcz45_1 : w43.cell? ⟨gb152, 1, none⟩ = some (.int .u64 a0_1) := (blk_cell BK152.out 1).trans rfl; have hcz45_2 : w43.cell? ⟨gb152, 2, none⟩ = some (.int .u64 a0_2) := (blk_cell BK152.out 2).trans rfl; have hcz45_3 : w43.cell? ⟨gb152, 3, none⟩ = some (.int .u64 a0_3) := (blk_cell BK152.out 3).trans rfl; have hcz45_4 : w43.cell? ⟨gb152, 4, none⟩ = some (.int .i64 a0_4) := (blk_cell BK152.out 4).trans rfl; have hcz45_5 : w43.cell? ⟨gb152, 5, none⟩ = some (.int .i64 a0_5) := (blk_cell BK152.out 5).trans rfl; have hfz45_0 := blk_frozen BK152.out 0; have hfz45_1 := blk_frozen BK152.out 1; have hfz45_2 := blk_frozen BK152.out 2; have hfz45_3 := blk_frozen BK152.out 3; have hfz45_4 := blk_frozen BK152.out 4; have hfz45_5 := blk_frozen BK152.out 5) | ((with_reducible refine gate_callee (f := 48) rfl ?_); refine goesL_ (some 26) rfl rfl Try.func48 (by kernel_rfl) rfl #[.agg #[.int .u64 a0_0, .int .u64 a0_1, .int .u64 a0_2, .int .u64 a0_3, .int .i64 a0_4, .int .i64 a0_5], .int .i64 a1] rfl (by (try simp only [List.map_toArray, List.map_cons, List.map_nil]); first | done | rfl | (simp only [List.length_drop, List.length_take]; rfl)) ?_; (with_reducible refine (num_Low.calls a0_0 a0_1 a0_2 a0_3 a0_4 a0_5 a1 false _ A15.out).mono ?_); rintro e w46 ⟨rfl, hb⟩; refine ⟨_, rfl, ?_⟩; have n0_ := Aside0.mk (blk_below (g := gb152) (o := .cells #[.int .u64 a0_0, .int .u64 a0_1, .int .u64 a0_2, .int .u64 a0_3, .int .i64 a0_4, .int .i64 a0_5] 26 (0, 0)) (by (with_reducible repeat (first | refine blk_drewN ?_ _ | refine blk_drew ?_ | refine blk_alloc ?_ _)); refine blk_far ?_ NB152_161.out _; (with_reducible repeat (first | refine blk_drewN ?_ _ | refine blk_drew ?_ | refine blk_alloc ?_ _)); refine blk_far ?_ NB152_161.out _; (with_reducible repeat (first | refine blk_drewN ?_ _ | refine blk_drew ?_ | refine blk_alloc ?_ _)); refine blk_far ?_ NB152_161.out _; (with_reducible repeat (first | refine blk_drewN ?_ _ | refine blk_drew ?_ | refine blk_alloc ?_ _)); exact BK152.out) hb); have n1_ := Aside0.mk (blk_below (g := gb153) (o := .cells #[.int .u64 0, .int .u64 0, .int .u64 0, .int .u64 0, .int .i64 0, .int .i64 0] 26 (0, 0)) (by (with_reducible repeat (first | refine blk_drewN ?_ _ | refine blk_drew ?_ | refine blk_alloc ?_ _)); refine blk_far ?_ NB153_161.out _; (with_reducible repeat (first | refine blk_drewN ?_ _ | refine blk_drew ?_ | refine blk_alloc ?_ _)); refine blk_far ?_ NB153_161.out _; (with_reducible repeat (first | refine blk_drewN ?_ _ | refine blk_drew ?_ | refine blk_alloc ?_ _)); refine blk_far ?_ NB153_161.out _; (with_reducible repeat (first | refine blk_drewN ?_ _ | refine blk_drew ?_ | refine blk_alloc ?_ _)); exact BK153.out) hb); have n2_ := Aside0.mk (blk_below (g := gb161) (o := .cells #[.int .u64 t162, .int .u64 t163, .int .u64 t157, .int .u64 t164, .int .i64 t159, .int .i64 t160] 26 (0, 0)) (by (with_reducible repeat (first | refine blk_drewN ?_ _ | refine blk_drew ?_ | refine blk_alloc ?_ _)); refine blk_put (cs := #[.int .u64 t162, .int .u64 t163, .int .u64 t157, .int .u64 t158, .int .i64 t159, .int .i64 t160]) ?_ 3 _ rfl; (with_reducible repeat (first | refine blk_drewN ?_ _ | refine blk_drew ?_ | refine blk_alloc ?_ _)); refine blk_put (cs := #[.int .u64 t162, .int .u64 t156, .int .u64 t157, .int .u64 t158, .int .i64 t159, .int .i64 t160]) ?_ 1 _ rfl; (with_reducible repeat (first | refine blk_drewN ?_ _ | refine blk_drew ?_ | refine blk_alloc ?_ _)); refine blk_put (cs := #[.int .u64 t155, .int .u64 t156, .int .u64 t157, .int .u64 t158, .int .i64 t159, .int .i64 t160]) ?_ 0 _ rfl; (with_reducible repeat (first | refine blk_drewN ?_ _ | refine blk_drew ?_ | refine blk_alloc ?_ _)); exact BK161.out) hb); have n3_ := Aside0.mk (below_step (by repeat (first | (with_reducible first | exact HB.out | apply below_alloc | apply pw_below_drewN | apply below_drew1 | refine below_set ?_ GE152.out | refine below_set ?_ GE153.out | refine below_set ?_ GE161.out) | exact HB.out)) hb); clear BK152; clear BK153; clear BK161; clear HB; have BK152 := n0_; have BK153 := n1_; have BK161 := n2_; have HB := n3_; clear n0_ n1_ n2_ n3_; (try clear hb); (try clear hb2); (try clear hk); (try clear hi); have hcz47_0 : w46.cell? ⟨gb161, 0, none⟩ = some (.int .u64 t162) := (blk_cell BK161.out 0).trans rfl; have hcz47_1 : w46.cell? ⟨gb161, 1, none⟩ = some (.int .u64 t163) := (blk_cell BK161.out 1).trans rfl; have hcz47_2 : w46.cell? ⟨gb161, 2, none⟩ = some (.int .u64 t157) := (blk_cell BK161.out 2).trans rfl; have hcz47_3 : w46.cell? ⟨gb161, 3, none⟩ = some (.int .u64 t164) := (blk_cell BK161.out 3).trans rfl; have hcz47_4 : w46.cell? ⟨gb161, 4, none⟩ = some (.int .i64 t159) := (blk_cell BK161.out 4).trans rfl; have hcz47_5 : w46.cell? ⟨gb161, 5, none⟩ = some (.int .i64 t160) := (blk_cell BK161.out 5).trans rfl; have hfz47_0 := blk_frozen BK161.out 0; have hfz47_1 := blk_frozen BK161.out 1; have hfz47_2 := blk_frozen BK161.out 2; have hfz47_3 := blk_frozen BK161.out 3; have hfz47_4 := blk_frozen BK161.out 4; have hfz47_5 := blk_frozen BK161.out 5) | ((with_reducible refine gate_callee (f := 49) rfl ?_); refine goesL_ (some 34) rfl rfl Try.func49 (by kernel_rfl) rfl #[.agg #[.int .u64 t162, .int .u64 t163, .int .u64 t157, .int .u64 t164, .int .i64 t159, .int .i64 t160]] rfl (by (try simp only [List.map_toArray, List.map_cons, List.map_nil]); first | done | rfl | (simp only [List.length_drop, List.length_take]; rfl)) ?_; (with_reducible refine (num_orAll.calls t162 t163 t157 t164 t159 t160 t172 t173 t174 t175 t176 t177 _ A35.out).mono ?_); rintro e w48 ⟨rfl, hb⟩; refine ⟨_, rfl, ?_⟩; have n0_ := Aside0.mk (blk_below (g := gb152) (o := .cells #[.int .u64 a0_0, .int .u64 a0_1, .int .u64 a0_2, .int .u64 a0_3, .int .i64 a0_4, .int .i64 a0_5] 26 (0, 0)) (by (with_reducible repeat (first | refine blk_drewN ?_ _ | refine blk_drew ?_ | refine blk_alloc ?_ _)); exact BK152.out) hb); have n1_ := Aside0.mk (blk_below (g := gb153) (o := .cells #[.int .u64 0, .int .u64 0, .int .u64 0, .int .u64 0, .int .i64 0, .int .i64 0] 26 (0, 0)) (by (with_reducible repeat (first | refine blk_drewN ?_ _ | refine blk_drew ?_ | refine blk_alloc ?_ _)); exact BK153.out) hb); have n2_ := Aside0.mk (blk_below (g := gb161) (o := .cells #[.int .u64 t162, .int .u64 t163, .int .u64 t157, .int .u64 t164, .int .i64 t159, .int .i64 t160] 26 (0, 0)) (by (with_reducible repeat (first | refine blk_drewN ?_ _ | refine blk_drew ?_ | refine blk_alloc ?_ _)); exact BK161.out) hb); have n3_ := Aside0.mk (below_step (by repeat (first | (with_reducible first | exact HB.out | apply below_alloc | apply pw_below_drewN | apply below_drew1 | refine below_set ?_ GE152.out | refine below_set ?_ GE153.out | refine below_set ?_ GE161.out) | exact HB.out)) hb); clear BK152; clear BK153; clear BK161; clear HB; have BK152 := n0_; have BK153 := n1_; have BK161 := n2_; have HB := n3_; clear n0_ n1_ n2_ n3_; (try clear hb); (try clear hb2); (try clear hk); (try clear hi); have hcz49_0 : w48.cell? ⟨gb153, 0, none⟩ = some (.int .u64 0) := (blk_cell BK153.out 0).trans rfl; have hcz49_1 : w48.cell? ⟨gb153, 1, none⟩ = some (.int .u64 0) := (blk_cell BK153.out 1).trans rfl; have hcz49_2 : w48.cell? ⟨gb153, 2, none⟩ = some (.int .u64 0) := (blk_cell BK153.out 2).trans rfl; have hcz49_3 : w48.cell? ⟨gb153, 3, none⟩ = some (.int .u64 0) := (blk_cell BK153.out 3).trans rfl; have hcz49_4 : w48.cell? ⟨gb153, 4, none⟩ = some (.int .i64 0) := (blk_cell BK153.out 4).trans rfl; have hcz49_5 : w48.cell? ⟨gb153, 5, none⟩ = some (.int .i64 0) := (blk_cell BK153.out 5).trans rfl; have hfz49_0 := blk_frozen BK153.out 0; have hfz49_1 := blk_frozen BK153.out 1; have hfz49_2 := blk_frozen BK153.out 2; have hfz49_3 := blk_frozen BK153.out 3; have hfz49_4 := blk_frozen BK153.out 4; have hfz49_5 := blk_frozen BK153.out 5))
     refine bodyPost_ret (results_cell_row rfl _ _ gb153 26 #[.int .u64 t172, .int .u64 t173, .int .u64 t174, .int .u64 t175, .int .i64 t176, .int .i64 t177] (0, 0) _ rfl (by (with_reducible repeat (first | refine blk_drewN ?_ _ | refine blk_drew ?_ | refine blk_alloc ?_ _)); refine blk_put (cs := #[.int .u64 t172, .int .u64 t173, .int .u64 t174, .int .u64 t175, .int .i64 t176, .int .i64 0]) ?_ 5 _ rfl; (with_reducible repeat (first | refine blk_drewN ?_ _ | refine blk_drew ?_ | refine blk_alloc ?_ _)); refine blk_put (cs := #[.int .u64 t172, .int .u64 t173, .int .u64 t174, .int .u64 t175, .int .i64 0, .int .i64 0]) ?_ 4 _ rfl; (with_reducible repeat (first | refine blk_drewN ?_ _ | refine blk_drew ?_ | refine blk_alloc ?_ _)); refine blk_put (cs := #[.int .u64 t172, .int .u64 t173, .int .u64 t174, .int .u64 0, .int .i64 0, .int .i64 0]) ?_ 3 _ rfl; (with_reducible repeat (first | refine blk_drewN ?_ _ | refine blk_drew ?_ | refine blk_alloc ?_ _)); refine blk_put (cs := #[.int .u64 t172, .int .u64 t173, .int .u64 0, .int .u64 0, .int .i64 0, .int .i64 0]) ?_ 2 _ rfl; (with_reducible repeat (first | refine blk_drewN ?_ _ | refine blk_drew ?_ | refine blk_alloc ?_ _)); refine blk_put (cs := #[.int .u64 t172, .int .u64 0, .int .u64 0, .int .u64 0, .int .i64 0, .int .i64 0]) ?_ 1 _ rfl; (with_reducible repeat (first | refine blk_drewN ?_ _ | refine blk_drew ?_ | refine blk_alloc ?_ _)); refine blk_put (cs := #[.int .u64 0, .int .u64 0, .int .u64 0, .int .u64 0, .int .i64 0, .int .i64 0]) ?_ 0 _ rfl; (with_reducible repeat (first | refine blk_drewN ?_ _ | refine blk_drew ?_ | refine blk_alloc ?_ _)); exact BK153.out) Try.underlying26 rfl (by kernel_rfl)) rfl ?_
     exact ⟨by first | rfl | (simp [errW_none, errW_some] <;> rfl) | (simp [*, errW_none, errW_some] <;> rfl), by repeat (first | (with_reducible first | exact HB.out | apply below_alloc | apply pw_below_drewN | apply below_drew1 | refine below_set ?_ GE152.out | refine below_set ?_ GE153.out | refine below_set ?_ GE161.out) | exact HB.out)⟩

/-! ### tnum_Add: function 60 -/
def tnum_Add.f (a0_0 : Int) (a0_1 : Int) (a1_0 : Int) (a1_1 : Int) : Option (Int × Int) := (tnum_right.f a0_0 a0_1).bind fun bt181 => ((tnum_right.f a1_0 a1_1).bind fun bt183 => ((tnum_right.f (IntKind.u64.wrap (bt181.1 + bt183.1)) (Go.bits .or .u64 (Go.bits .or .u64 (Go.bits .xor .u64 (IntKind.u64.wrap (bt181.1 + bt183.1)) (IntKind.u64.wrap ((IntKind.u64.wrap ((IntKind.u64.wrap (bt181.1 + bt183.1)) + bt181.2)) + bt183.2))) bt181.2) bt183.2)).bind fun bt185 => (some (bt185.1, bt185.2))))
set_option maxHeartbeats 8000000 in
set_option maxRecDepth 100000 in
theorem tnum_Add.calls (a0_0 : Int) (a0_1 : Int) (a1_0 : Int) (a1_1 : Int) (r1 : Int) (r2 : Int) (w : World) (h : tnum_Add.f a0_0 a0_1 a1_0 a1_1 = some (r1, r2)) :
  Calls Try.prog 60 #[.agg #[.int .u64 a0_0, .int .u64 a0_1], .agg #[.int .u64 a1_0, .int .u64 a1_1]] w fun e w' => e = .returned (.agg #[.int .u64 r1, .int .u64 r2]) ∧ Below w.heap.size w w' := by
 have hu24 := Try.underlying24
 have HB := Aside0.mk (Below.refl w.heap.size w)
 have H : ((tnum_right.f a0_0 a0_1).bind fun bt181 => ((tnum_right.f a1_0 a1_1).bind fun bt183 => ((tnum_right.f (IntKind.u64.wrap (bt181.1 + bt183.1)) (Go.bits .or .u64 (Go.bits .or .u64 (Go.bits .xor .u64 (IntKind.u64.wrap (bt181.1 + bt183.1)) (IntKind.u64.wrap ((IntKind.u64.wrap ((IntKind.u64.wrap (bt181.1 + bt183.1)) + bt181.2)) + bt183.2))) bt181.2) bt183.2)).bind fun bt185 => (some (bt185.1, bt185.2))))) = some (r1, r2) := h
 clear h
 replace H := Option.bind_eq_some_iff.mp H
 obtain ⟨⟨t181, t182⟩, A30, H⟩ := H
 replace H : ((tnum_right.f a1_0 a1_1).bind fun bt183 => ((tnum_right.f (IntKind.u64.wrap (t181 + bt183.1)) (Go.bits .or .u64 (Go.bits .or .u64 (Go.bits .xor .u64 (IntKind.u64.wrap (t181 + bt183.1)) (IntKind.u64.wrap ((IntKind.u64.wrap ((IntKind.u64.wrap (t181 + bt183.1)) + t182)) + bt183.2))) t182) bt183.2)).bind fun bt185 => (some (bt185.1, bt185.2)))) = some (r1, r2) := H
 have A3 := Aside0.mk A30
 clear A30
 replace H := Option.bind_eq_some_iff.mp H
 obtain ⟨⟨t183, t184⟩, A40, H⟩ := H
 replace H : ((tnum_right.f (IntKind.u64.wrap (t181 + t183)) (Go.bits .or .u64 (Go.bits .or .u64 (Go.bits .xor .u64 (IntKind.u64.wrap (t181 + t183)) (IntKind.u64.wrap ((IntKind.u64.wrap ((IntKind.u64.wrap (t181 + t183)) + t182)) + t184))) t182) t184)).bind fun bt185 => (some (bt185.1, bt185.2))) = some (r1, r2) := H
 have A4 := Aside0.mk A40
 clear A40
 replace H := Option.bind_eq_some_iff.mp H
 obtain ⟨⟨t185, t186⟩, A50, H⟩ := H
 replace H : (some (t185, t186)) = some (r1, r2) := H
 have A5 := Aside0.mk A50
 clear A50
 simp only [Option.some.injEq, Prod.mk.injEq] at H
 obtain ⟨rfl, rfl⟩ := H
 go_enter Try.func60, Try.ntmps60
 try go_wp2_with (first | ((with_reducible refine gate_dst (N := 2) rfl ?_); refine box_event ?hg (N := 2) ?hd (cs := #[.int .u64 a0_0, .int .u64 a0_1]) (t := 24) ?hr ?_; (case hd => rfl); (case hg => rfl); (case hr => first | (go_simp; done) | (go_simp; rfl)); intro gb178 hg w6 hbox hb; have n0_ := Aside0.mk (below_step (by repeat (first | (with_reducible first | exact HB.out | apply below_alloc | apply pw_below_drewN | apply below_drew1) | exact HB.out)) hb); have n1_ := Aside0.mk (hbox); have n2_ := Aside0.mk ((by rw [hg]; exact (below_size (by repeat (first | (with_reducible first | exact HB.out | apply below_alloc | apply pw_below_drewN | apply below_drew1) | exact HB.out))) : w.heap.size ≤ gb178)); have n3_ := Aside0.mk ((by rw [hg]; exact (below_size (by repeat (first | (with_reducible first | exact HB.out | apply below_alloc | apply pw_below_drewN | apply below_drew1) | exact HB.out))) : w.heap.size ≤ gb178)); clear HB; have HB := n0_; have BK178 := n1_; have GW178 := n2_; have GE178 := n3_; clear n0_ n1_ n2_ n3_; clear hb hbox hg) | ((with_reducible refine gate_dst (N := 3) rfl ?_); refine box_event ?hg (N := 3) ?hd (cs := #[.int .u64 a1_0, .int .u64 a1_1]) (t := 24) ?hr ?_; (case hd => rfl); (case hg => rfl); (case hr => first | (go_simp; done) | (go_simp; rfl)); intro gb179 hg w7 hbox hb; have n0_ := Aside0.mk (blk_below (g := gb178) (o := .cells #[.int .u64 a0_0, .int .u64 a0_1] 24 (0, 0)) (by (with_reducible repeat (first | refine blk_drewN ?_ _ | refine blk_drew ?_ | refine blk_alloc ?_ _)); exact BK178.out) hb); have n1_ := Aside0.mk (below_step (by repeat (first | (with_reducible first | exact HB.out | apply below_alloc | apply pw_below_drewN | apply below_drew1 | refine below_set ?_ GE178.out) | exact HB.out)) hb); have n2_ := Aside0.mk (hbox); have n3_ := Aside0.mk ((by rw [hg]; exact (below_size (by repeat (first | (with_reducible first | exact HB.out | apply below_alloc | apply pw_below_drewN | apply below_drew1 | refine below_set ?_ GE178.out) | exact HB.out))) : w.heap.size ≤ gb179)); have n4_ := Aside0.mk ((by rw [hg]; exact (below_size (by repeat (first | (with_reducible first | exact HB.out | apply below_alloc | apply pw_below_drewN | apply below_drew1 | refine below_set ?_ GE178.out) | exact HB.out))) : w.heap.size ≤ gb179)); have n5_ := Aside0.mk ((by rw [hg]; exact Nat.ne_of_lt (blk_lt (g := gb178) (o := .cells #[.int .u64 a0_0, .int .u64 a0_1] 24 (0, 0)) (by (with_reducible repeat (first | refine blk_drewN ?_ _ | refine blk_drew ?_ | refine blk_alloc ?_ _)); exact BK178.out)) : gb178 ≠ gb179)); have n6_ := Aside0.mk ((by rw [hg]; exact Nat.ne_of_gt (blk_lt (g := gb178) (o := .cells #[.int .u64 a0_0, .int .u64 a0_1] 24 (0, 0)) (by (with_reducible repeat (first | refine blk_drewN ?_ _ | refine blk_drew ?_ | refine blk_alloc ?_ _)); exact BK178.out)) : gb179 ≠ gb178)); clear BK178; clear HB; have BK178 := n0_; have HB := n1_; have BK179 := n2_; have GW179 := n3_; have GE179 := n4_; have NB178_179 := n5_; have NB179_178 := n6_; clear n0_ n1_ n2_ n3_ n4_ n5_ n6_; clear hb hbox hg) | ((with_reducible refine gate_dst (N := 4) rfl ?_); refine box_event ?hg (N := 4) ?hd (cs := #[.int .u64 0, .int .u64 0]) (t := 24) ?hr ?_; (case hd => rfl); (case hg => rfl); (case hr => first | (go_simp; done) | (go_simp; rfl)); intro gb180 hg w8 hbox hb; have n0_ := Aside0.mk (blk_below (g := gb178) (o := .cells #[.int .u64 a0_0, .int .u64 a0_1] 24 (0, 0)) (by (with_reducible repeat (first | refine blk_drewN ?_ _ | refine blk_drew ?_ | refine blk_alloc ?_ _)); exact BK178.out) hb); have n1_ := Aside0.mk (blk_below (g := gb179) (o := .cells #[.int .u64 a1_0, .int .u64 a1_1] 24 (0, 0)) (by (with_reducible repeat (first | refine blk_drewN ?_ _ | refine blk_drew ?_ | refine blk_alloc ?_ _)); exact BK179.out) hb); have n2_ := Aside0.mk (below_step (by repeat (first | (with_reducible first | exact HB.out | apply below_alloc | apply pw_below_drewN | apply below_drew1 | refine below_set ?_ GE178.out | refine below_set ?_ GE179.out) | exact HB.out)) hb); have n3_ := Aside0.mk (hbox); have n4_ := Aside0.mk ((by rw [hg]; exact (below_size (by repeat (first | (with_reducible first | exact HB.out | apply below_alloc | apply pw_below_drewN | apply below_drew1 | refine below_set ?_ GE178.out | refine below_set ?_ GE179.out) | exact HB.out))) : w.heap.size ≤ gb180)); have n5_ := Aside0.mk ((by rw [hg]; exact (below_size (by repeat (first | (with_reducible first | exact HB.out | apply below_alloc | apply pw_below_drewN | apply below_drew1 | refine below_set ?_ GE178.out | refine below_set ?_ GE179.out) | exact HB.out))) : w.heap.size ≤ gb180)); have n6_ := Aside0.mk ((by rw [hg]; exact Nat.ne_of_lt (blk_lt (g := gb178) (o := .cells #[.int .u64 a0_0, .int .u64 a0_1] 24 (0, 0)) (by (with_reducible repeat (first | refine blk_drewN ?_ _ | refine blk_drew ?_ | refine blk_alloc ?_ _)); exact BK178.out)) : gb178 ≠ gb180)); have n7_ := Aside0.mk ((by rw [hg]; exact Nat.ne_of_gt (blk_lt (g := gb178) (o := .cells #[.int .u64 a0_0, .int .u64 a0_1] 24 (0, 0)) (by (with_reducible repeat (first | refine blk_drewN ?_ _ | refine blk_drew ?_ | refine blk_alloc ?_ _)); exact BK178.out)) : gb180 ≠ gb178)); have n8_ := Aside0.mk ((by rw [hg]; exact Nat.ne_of_lt (blk_lt (g := gb179) (o := .cells #[.int .u64 a1_0, .int .u64 a1_1] 24 (0, 0)) (by (with_reducible repeat (first | refine blk_drewN ?_ _ | refine blk_drew ?_ | refine blk_alloc ?_ _)); exact BK179.out)) : gb179 ≠ gb180)); have n9_ := Aside0.mk ((by rw [hg]; exact Nat.ne_of_gt (blk_lt (g := gb179) (o := .cells #[.int .u64 a1_0, .int .u64 a1_1] 24 (0, 0)) (by (with_reducible repeat (first | refine blk_drewN ?_ _ | refine blk_drew ?_ | refine blk_alloc ?_ _)); exact BK179.out)) : gb180 ≠ gb179)); clear BK178; clear BK179; clear HB; have BK178 := n0_; have BK179 := n1_; have HB := n2_; have BK180 := n3_; have GW180 := n4_; have GE180 := n5_; have NB178_180 := n6_; have NB180_178 := n7_; have NB179_180 := n8_; have NB180_179 := n9_; clear n0_ n1_ n2_ n3_ n4_ n5_ n6_ n7_ n8_ n9_; clear hb hbox hg))
 have n0_ := Aside0.mk (blk_drew BK178.out)
 have n1_ := Aside0.mk (blk_drew BK179.out)
 have n2_ := Aside0.mk (blk_drew BK180.out)
 have n3_ := Aside0.mk (below_drew1 HB.out)
 clear BK178
 clear BK179
 clear BK180
 clear HB
 have BK178 := n0_
 have BK179 := n1_
 have BK180 := n2_
 have HB := n3_
 clear n0_ n1_ n2_ n3_
 refine start_ (n := 6) (S := fun w' => w'.cell? ⟨gb178, 0, none⟩ = some (.int .u64 a0_0) ∧ w'.cell? ⟨gb178, 1, none⟩ = some (.int .u64 a0_1) ∧ w'.cell? ⟨gb179, 0, none⟩ = some (.int .u64 a1_0) ∧ w'.cell? ⟨gb179, 1, none⟩ = some (.int .u64 a1_1)) (ds := [4, 5]) #[false, false, false, false, false, false] (by kernel_rfl) rfl rfl ⟨(blk_cell BK178.out 0).trans rfl, (blk_cell BK178.out 1).trans rfl, (blk_cell BK179.out 0).trans rfl, (blk_cell BK179.out 1).trans rfl⟩ (fun hHeld => ?_)
 generalize w8.drew = w9 at BK178 BK179 BK180 HB hHeld ⊢
 refine take_ (i := 0) (N := some 7) (v := ?_) (a' := ?_) (Hp.up 6 1) rfl rfl (by kernel_rfl) (fun _ _ _ h => h) (Or.inl ⟨by rfl, ?_⟩) hHeld ?_ ?_
 rotate_left
 ·rintro w' ⟨s0, s1, s2, s3⟩
  go_simp
  with_reducible rfl
 rotate_left
 ·simp only [Act.put, List.setIfInBounds_toArray, List.set_cons_zero, List.set_cons_succ, i64_w, i32_w]
  rfl
 refine take_ (i := 2) (N := some 9) (v := ?_) (a' := ?_) #[true, false, true, false, false, false] rfl rfl (by kernel_rfl) (fun _ _ _ h => h) (Or.inl ⟨by rfl, ?_⟩) hHeld ?_ ?_
 rotate_left
 ·rintro w' ⟨s0, s1, s2, s3⟩
  go_simp
  with_reducible rfl
 rotate_left
 ·simp only [Act.put, List.setIfInBounds_toArray, List.set_cons_zero, List.set_cons_succ, i64_w, i32_w]
  rfl
 refine one_ (i := 1) (N := some 8) (Hp.up 6 3) rfl rfl (by kernel_rfl) (by decide) (fun K hK => ?_)
 refine goes_ Try.func83 (by kernel_rfl) rfl #[.agg #[.int .u64 a0_0, .int .u64 a0_1]] (by rfl) rfl rfl (by (try simp only [List.map_toArray, List.map_cons, List.map_nil]); first | done | rfl | (simp only [List.length_drop, List.length_take]; rfl)) ?_
 with_reducible refine (tnum_right.calls a0_0 a0_1 t181 t182 _ A3.out).mono ?_
 rintro e w10 ⟨rfl, hb⟩
 refine ⟨_, rfl, ?_⟩
 have n0_ := Aside0.mk (blk_below (g := gb178) (o := .cells #[.int .u64 a0_0, .int .u64 a0_1] 24 (0, 0)) (by (with_reducible repeat (first | refine blk_drewN ?_ _ | refine blk_drew ?_ | refine blk_alloc ?_ _)); exact BK178.out) hb)
 have n1_ := Aside0.mk (blk_below (g := gb179) (o := .cells #[.int .u64 a1_0, .int .u64 a1_1] 24 (0, 0)) (by (with_reducible repeat (first | refine blk_drewN ?_ _ | refine blk_drew ?_ | refine blk_alloc ?_ _)); exact BK179.out) hb)
 have n2_ := Aside0.mk (blk_below (g := gb180) (o := .cells #[.int .u64 0, .int .u64 0] 24 (0, 0)) (by (with_reducible repeat (first | refine blk_drewN ?_ _ | refine blk_drew ?_ | refine blk_alloc ?_ _)); exact BK180.out) hb)
 have n3_ := Aside0.mk (below_step (by repeat (first | (with_reducible first | exact HB.out | apply below_alloc | apply pw_below_drewN | apply below_drew1 | refine below_set ?_ GE178.out | refine below_set ?_ GE179.out | refine below_set ?_ GE180.out) | exact HB.out)) hb)
 clear BK178
 clear BK179
 clear BK180
 clear HB
 have BK178 := n0_
 have BK179 := n1_
 have BK180 := n2_
 have HB := n3_
 clear n0_ n1_ n2_ n3_
 (try clear hb)
 (try clear hb2)
 (try clear hk)
 (try clear hi)
 refine hK.out _ _ ⟨(blk_cell BK178.out 0).trans rfl, (blk_cell BK178.out 1).trans rfl, (blk_cell BK179.out 0).trans rfl, (blk_cell BK179.out 1).trans rfl⟩ (fun hHeld => ?_)
 clear hK K
 refine norm_ (a' := ?_) ?_ ?_
 rotate_left
 ·show Act.put _ (some 8) _ = _
  simp only [Act.put, List.setIfInBounds_toArray, List.set_cons_zero, List.set_cons_succ, i64_w, i32_w]
  rfl
 refine one_ (i := 3) (N := some 10) (Hp.up 6 4) rfl rfl (by kernel_rfl) (by decide) (fun K hK => ?_)
 refine goes_ Try.func83 (by kernel_rfl) rfl #[.agg #[.int .u64 a1_0, .int .u64 a1_1]] (by rfl) rfl rfl (by (try simp only [List.map_toArray, List.map_cons, List.map_nil]); first | done | rfl | (simp only [List.length_drop, List.length_take]; rfl)) ?_
 with_reducible refine (tnum_right.calls a1_0 a1_1 t183 t184 _ A4.out).mono ?_
 rintro e w11 ⟨rfl, hb⟩
 refine ⟨_, rfl, ?_⟩
 have n0_ := Aside0.mk (blk_below (g := gb178) (o := .cells #[.int .u64 a0_0, .int .u64 a0_1] 24 (0, 0)) (by (with_reducible repeat (first | refine blk_drewN ?_ _ | refine blk_drew ?_ | refine blk_alloc ?_ _)); exact BK178.out) hb)
 have n1_ := Aside0.mk (blk_below (g := gb179) (o := .cells #[.int .u64 a1_0, .int .u64 a1_1] 24 (0, 0)) (by (with_reducible repeat (first | refine blk_drewN ?_ _ | refine blk_drew ?_ | refine blk_alloc ?_ _)); exact BK179.out) hb)
 have n2_ := Aside0.mk (blk_below (g := gb180) (o := .cells #[.int .u64 0, .int .u64 0] 24 (0, 0)) (by (with_reducible repeat (first | refine blk_drewN ?_ _ | refine blk_drew ?_ | refine blk_alloc ?_ _)); exact BK180.out) hb)
 have n3_ := Aside0.mk (below_step (by repeat (first | (with_reducible first | exact HB.out | apply below_alloc | apply pw_below_drewN | apply below_drew1 | refine below_set ?_ GE178.out | refine below_set ?_ GE179.out | refine below_set ?_ GE180.out) | exact HB.out)) hb)
 clear BK178
 clear BK179
 clear BK180
 clear HB
 have BK178 := n0_
 have BK179 := n1_
 have BK180 := n2_
 have HB := n3_
 clear n0_ n1_ n2_ n3_
 (try clear hb)
 (try clear hb2)
 (try clear hk)
 (try clear hi)
 refine hK.out _ _ ⟨(blk_cell BK178.out 0).trans rfl, (blk_cell BK178.out 1).trans rfl, (blk_cell BK179.out 0).trans rfl, (blk_cell BK179.out 1).trans rfl⟩ (fun hHeld => ?_)
 clear hK K
 refine norm_ (a' := ?_) ?_ ?_
 rotate_left
 ·show Act.put _ (some 10) _ = _
  simp only [Act.put, List.setIfInBounds_toArray, List.set_cons_zero, List.set_cons_succ, i64_w, i32_w]
  rfl
 refine last_ (i := 4) (N := none) (Hp.up 6 5) rfl rfl (by kernel_rfl) (by decide) (fun K hK => ?_)
 have hs12 : w11.cell? ⟨gb178, 0, none⟩ = some (.int .u64 a0_0) := (blk_cell BK178.out 0).trans rfl
 have hfs12 := blk_frozen BK178.out 0
 have hns12_1 := NB179_178.out
 have hns12_2 := NB180_178.out
 have hms12_1 := NB178_179.out
 have hms12_2 := NB178_180.out
 have hs13 : w11.cell? ⟨gb178, 1, none⟩ = some (.int .u64 a0_1) := (blk_cell BK178.out 1).trans rfl
 have hfs13 := blk_frozen BK178.out 1
 have hns13_1 := NB179_178.out
 have hns13_2 := NB180_178.out
 have hms13_1 := NB178_179.out
 have hms13_2 := NB178_180.out
 refine skip_ (w1 := ?_) (by rfl) rfl ?_ ?_
 rotate_left
 ·go_simp
  rfl
 refine hK.out _ _ ?_
 clear hK K
 refine last_ (i := 5) (N := none) (Hp.up 6 6) rfl rfl (by kernel_rfl) (by decide) (fun K hK => ?_)
 have hs14 : w11.cell? ⟨gb179, 0, none⟩ = some (.int .u64 a1_0) := (blk_cell BK179.out 0).trans rfl
 have hfs14 := blk_frozen BK179.out 0
 have hns14_0 := NB178_179.out
 have hns14_2 := NB180_179.out
 have hms14_0 := NB179_178.out
 have hms14_2 := NB179_180.out
 have hs15 : w11.cell? ⟨gb179, 1, none⟩ = some (.int .u64 a1_1) := (blk_cell BK179.out 1).trans rfl
 have hfs15 := blk_frozen BK179.out 1
 have hns15_0 := NB178_179.out
 have hns15_2 := NB180_179.out
 have hms15_0 := NB179_178.out
 have hms15_2 := NB179_180.out
 refine skip_ (w1 := ?_) (by rfl) rfl ?_ ?_
 rotate_left
 ·go_simp
  rfl
 refine hK.out _ _ ?_
 clear hK K
 refine done_ (by kernel_rfl) ?_
 have hnb16 := NB178_179.out
 have hnc16 := NB179_178.out
 have hnb17 := NB178_180.out
 have hnc17 := NB180_178.out
 have hcz18_0 : w11.cell? ⟨gb178, 0, none⟩ = some (.int .u64 a0_0) := (blk_cell BK178.out 0).trans rfl
 have hcz18_1 : w11.cell? ⟨gb178, 1, none⟩ = some (.int .u64 a0_1) := (blk_cell BK178.out 1).trans rfl
 have hfz18_0 := blk_frozen BK178.out 0
 have hfz18_1 := blk_frozen BK178.out 1
 have hnb19 := NB179_180.out
 have hnc19 := NB180_179.out
 have hcz20_0 : w11.cell? ⟨gb179, 0, none⟩ = some (.int .u64 a1_0) := (blk_cell BK179.out 0).trans rfl
 have hcz20_1 : w11.cell? ⟨gb179, 1, none⟩ = some (.int .u64 a1_1) := (blk_cell BK179.out 1).trans rfl
 have hfz20_0 := blk_frozen BK179.out 0
 have hfz20_1 := blk_frozen BK179.out 1
 try go_wp2_with (first | ((with_reducible refine gate_callee (f := 83) rfl ?_); refine goesL_ (some 34) rfl rfl Try.func83 (by kernel_rfl) rfl #[.agg #[.int .u64 (IntKind.u64.wrap (t181 + t183)), .int .u64 (Go.bits .or .u64 (Go.bits .or .u64 (Go.bits .xor .u64 (IntKind.u64.wrap (t181 + t183)) (IntKind.u64.wrap ((IntKind.u64.wrap ((IntKind.u64.wrap (t181 + t183)) + t182)) + t184))) t182) t184)]] rfl (by (try simp only [List.map_toArray, List.map_cons, List.map_nil]); first | done | rfl | (simp only [List.length_drop, List.length_take]; rfl)) ?_; (with_reducible refine (tnum_right.calls (IntKind.u64.wrap (t181 + t183)) (Go.bits .or .u64 (Go.bits .or .u64 (Go.bits .xor .u64 (IntKind.u64.wrap (t181 + t183)) (IntKind.u64.wrap ((IntKind.u64.wrap ((IntKind.u64.wrap (t181 + t183)) + t182)) + t184))) t182) t184) t185 t186 _ A5.out).mono ?_); rintro e w21 ⟨rfl, hb⟩; refine ⟨_, rfl, ?_⟩; have n0_ := Aside0.mk (blk_below (g := gb178) (o := .cells #[.int .u64 t181, .int .u64 t182] 24 (0, 0)) (by (with_reducible repeat (first | refine blk_drewN ?_ _ | refine blk_drew ?_ | refine blk_alloc ?_ _)); refine blk_far ?_ NB178_179.out _; (with_reducible repeat (first | refine blk_drewN ?_ _ | refine blk_drew ?_ | refine blk_alloc ?_ _)); refine blk_far ?_ NB178_179.out _; (with_reducible repeat (first | refine blk_drewN ?_ _ | refine blk_drew ?_ | refine blk_alloc ?_ _)); refine blk_put (cs := #[.int .u64 t181, .int .u64 a0_1]) ?_ 1 _ rfl; (with_reducible repeat (first | refine blk_drewN ?_ _ | refine blk_drew ?_ | refine blk_alloc ?_ _)); refine blk_put (cs := #[.int .u64 a0_0, .int .u64 a0_1]) ?_ 0 _ rfl; (with_reducible repeat (first | refine blk_drewN ?_ _ | refine blk_drew ?_ | refine blk_alloc ?_ _)); exact BK178.out) hb); have n1_ := Aside0.mk (blk_below (g := gb179) (o := .cells #[.int .u64 t183, .int .u64 t184] 24 (0, 0)) (by (with_reducible repeat (first | refine blk_drewN ?_ _ | refine blk_drew ?_ | refine blk_alloc ?_ _)); refine blk_put (cs := #[.int .u64 t183, .int .u64 a1_1]) ?_ 1 _ rfl; (with_reducible repeat (first | refine blk_drewN ?_ _ | refine blk_drew ?_ | refine blk_alloc ?_ _)); refine blk_put (cs := #[.int .u64 a1_0, .int .u64 a1_1]) ?_ 0 _ rfl; (with_reducible repeat (first | refine blk_drewN ?_ _ | refine blk_drew ?_ | refine blk_alloc ?_ _)); refine blk_far ?_ NB179_178.out _; (with_reducible repeat (first | refine blk_drewN ?_ _ | refine blk_drew ?_ | refine blk_alloc ?_ _)); refine blk_far ?_ NB179_178.out _; (with_reducible repeat (first | refine blk_drewN ?_ _ | refine blk_drew ?_ | refine blk_alloc ?_ _)); exact BK179.out) hb); have n2_ := Aside0.mk (blk_below (g := gb180) (o := .cells #[.int .u64 0, .int .u64 0] 24 (0, 0)) (by (with_reducible repeat (first | refine blk_drewN ?_ _ | refine blk_drew ?_ | refine blk_alloc ?_ _)); refine blk_far ?_ NB180_179.out _; (with_reducible repeat (first | refine blk_drewN ?_ _ | refine blk_drew ?_ | refine blk_alloc ?_ _)); refine blk_far ?_ NB180_179.out _; (with_reducible repeat (first | refine blk_drewN ?_ _ | refine blk_drew ?_ | refine blk_alloc ?_ _)); refine blk_far ?_ NB180_178.out _; (with_reducible repeat (first | refine blk_drewN ?_ _ | refine blk_drew ?_ | refine blk_alloc ?_ _)); refine blk_far ?_ NB180_178.out _; (with_reducible repeat (first | refine blk_drewN ?_ _ | refine blk_drew ?_ | refine blk_alloc ?_ _)); exact BK180.out) hb); have n3_ := Aside0.mk (below_step (by repeat (first | (with_reducible first | exact HB.out | apply below_alloc | apply pw_below_drewN | apply below_drew1 | refine below_set ?_ GE178.out | refine below_set ?_ GE179.out | refine below_set ?_ GE180.out) | exact HB.out)) hb); clear BK178; clear BK179; clear BK180; clear HB; have BK178 := n0_; have BK179 := n1_; have BK180 := n2_; have HB := n3_; clear n0_ n1_ n2_ n3_; (try clear hb); (try clear hb2); (try clear hk); (try clear hi); have hcz22_0 : w21.cell? ⟨gb180, 0, none⟩ = some (.int .u64 0) := (blk_cell BK180.out 0).trans rfl; have hcz22_1 : w21.cell? ⟨gb180, 1, none⟩ = some (.int .u64 0) := (blk_cell BK180.out 1).trans rfl; have hfz22_0 := blk_frozen BK180.out 0; have hfz22_1 := blk_frozen BK180.out 1))
 refine bodyPost_ret (results_cell_row rfl _ _ gb180 24 #[.int .u64 t185, .int .u64 t186] (0, 0) _ rfl (by (with_reducible repeat (first | refine blk_drewN ?_ _ | refine blk_drew ?_ | refine blk_alloc ?_ _)); refine blk_put (cs := #[.int .u64 t185, .int .u64 0]) ?_ 1 _ rfl; (with_reducible repeat (first | refine blk_drewN ?_ _ | refine blk_drew ?_ | refine blk_alloc ?_ _)); refine blk_put (cs := #[.int .u64 0, .int .u64 0]) ?_ 0 _ rfl; (with_reducible repeat (first | refine blk_drewN ?_ _ | refine blk_drew ?_ | refine blk_alloc ?_ _)); exact BK180.out) Try.underlying24 rfl (by kernel_rfl)) rfl ?_
 exact ⟨by first | rfl | (simp [errW_none, errW_some] <;> rfl) | (simp [*, errW_none, errW_some] <;> rfl), by repeat (first | (with_reducible first | exact HB.out | apply below_alloc | apply pw_below_drewN | apply below_drew1 | refine below_set ?_ GE178.out | refine below_set ?_ GE179.out | refine below_set ?_ GE180.out) | exact HB.out)⟩

/-- A state of type 46 at block g of W; what its slices lead to came in by w0. -/
def IsS46 (w0 W : World) (g : Nat) (f0 : Int) (f1 : Int) (f2 : Int) (f3 : Int) (f4 : Int) (f5 : Int) (f6 : Int) (f7 : Int) (f8 : Int) (f9 : Int) (f10 : Int) (f11 : Int) (f12 : Int) (f13 : Bool) (f14 : Int) (f15 : Int) (f16 : Int) (f17 : Int) (f18 : Int) (f19 : Int) (f20 : Int) : Prop := W.heap[g]? = some (.cells #[.int .u64 f0, .int .u64 f1, .int .u64 f2, .int .u64 f3, .int .i64 f4, .int .i64 f5, .int .u64 f6, .int .u64 f7, .int .u64 f8, .int .u64 f9, .int .i64 f10, .int .i64 f11, .int .u64 f12, .bool f13, .int .u64 f14, .int .u64 f15, .int .u64 f16, .int .u64 f17, .int .u64 f18, .int .i64 f19, .int .i64 f20] 46 (0, 0)) ∧ w0.heap.size ≤ g
theorem IsS46.grown {w0 W : World} {g : Nat} {f0 : Int} {f1 : Int} {f2 : Int} {f3 : Int} {f4 : Int} {f5 : Int} {f6 : Int} {f7 : Int} {f8 : Int} {f9 : Int} {f10 : Int} {f11 : Int} {f12 : Int} {f13 : Bool} {f14 : Int} {f15 : Int} {f16 : Int} {f17 : Int} {f18 : Int} {f19 : Int} {f20 : Int} {W1 : World} {row : Option Nat} (h : IsS46 w0 W g f0 f1 f2 f3 f4 f5 f6 f7 f8 f9 f10 f11 f12 f13 f14 f15 f16 f17 f18 f19 f20) (hw : W.grownBy W1 row) (hne : some g ≠ row) : IsS46 w0 W1 g f0 f1 f2 f3 f4 f5 f6 f7 f8 f9 f10 f11 f12 f13 f14 f15 f16 f17 f18 f19 f20 := by
 obtain ⟨hb, hg⟩ := h
 exact ⟨blk_grown hb hw hne, hg⟩
theorem IsS46.own_neN {w0 W : World} {g : Nat} {f0 : Int} {f1 : Int} {f2 : Int} {f3 : Int} {f4 : Int} {f5 : Int} {f6 : Int} {f7 : Int} {f8 : Int} {f9 : Int} {f10 : Int} {f11 : Int} {f12 : Int} {f13 : Bool} {f14 : Int} {f15 : Int} {f16 : Int} {f17 : Int} {f18 : Int} {f19 : Int} {f20 : Int} {α : Type} {d : Kd α} {e : Nat} {base : Nat} {ok : Nat → Prop} {v : Value} {xs : List α} (h : IsS46 w0 W g f0 f1 f2 f3 f4 f5 f6 f7 f8 f9 f10 f11 f12 f13 f14 f15 f16 f17 f18 f19 f20) (ho : Kd.N d e W base ok v xs) (ht : e ≠ 46) : some g ≠ v.ownBlock := by
 obtain ⟨hb, hg⟩ := h
 exact Kd.N_ne ho hb ht
theorem IsS46.fresh {w0 W : World} {g : Nat} {f0 : Int} {f1 : Int} {f2 : Int} {f3 : Int} {f4 : Int} {f5 : Int} {f6 : Int} {f7 : Int} {f8 : Int} {f9 : Int} {f10 : Int} {f11 : Int} {f12 : Int} {f13 : Bool} {f14 : Int} {f15 : Int} {f16 : Int} {f17 : Int} {f18 : Int} {f19 : Int} {f20 : Int} (h : IsS46 w0 W g f0 f1 f2 f3 f4 f5 f6 f7 f8 f9 f10 f11 f12 f13 f14 f15 f16 f17 f18 f19 f20) : ∀ k, W.heap.size ≤ k → k ≠ g := by
 obtain ⟨hb, hg⟩ := h
 exact Kd.freshB hb
theorem IsS46.kept {w0 W : World} {g : Nat} {f0 : Int} {f1 : Int} {f2 : Int} {f3 : Int} {f4 : Int} {f5 : Int} {f6 : Int} {f7 : Int} {f8 : Int} {f9 : Int} {f10 : Int} {f11 : Int} {f12 : Int} {f13 : Bool} {f14 : Int} {f15 : Int} {f16 : Int} {f17 : Int} {f18 : Int} {f19 : Int} {f20 : Int} {W1 : World} {S : Nat → Prop} (h : IsS46 w0 W g f0 f1 f2 f3 f4 f5 f6 f7 f8 f9 f10 f11 f12 f13 f14 f15 f16 f17 f18 f19 f20) (hk : Kept W W1 S) (hne : ¬ S g) : IsS46 w0 W1 g f0 f1 f2 f3 f4 f5 f6 f7 f8 f9 f10 f11 f12 f13 f14 f15 f16 f17 f18 f19 f20 := by
 obtain ⟨hb, hg⟩ := h
 exact ⟨blk_kept hb hk hne, hg⟩
theorem IsS46.below {w0 W : World} {g : Nat} {f0 : Int} {f1 : Int} {f2 : Int} {f3 : Int} {f4 : Int} {f5 : Int} {f6 : Int} {f7 : Int} {f8 : Int} {f9 : Int} {f10 : Int} {f11 : Int} {f12 : Int} {f13 : Bool} {f14 : Int} {f15 : Int} {f16 : Int} {f17 : Int} {f18 : Int} {f19 : Int} {f20 : Int} {W1 : World} (h : IsS46 w0 W g f0 f1 f2 f3 f4 f5 f6 f7 f8 f9 f10 f11 f12 f13 f14 f15 f16 f17 f18 f19 f20) (hw : Below W.heap.size W W1) : IsS46 w0 W1 g f0 f1 f2 f3 f4 f5 f6 f7 f8 f9 f10 f11 f12 f13 f14 f15 f16 f17 f18 f19 f20 := h.grown (grown_of_below hw none) (by simp)
theorem IsS46.alloc {w0 W : World} {g : Nat} {f0 : Int} {f1 : Int} {f2 : Int} {f3 : Int} {f4 : Int} {f5 : Int} {f6 : Int} {f7 : Int} {f8 : Int} {f9 : Int} {f10 : Int} {f11 : Int} {f12 : Int} {f13 : Bool} {f14 : Int} {f15 : Int} {f16 : Int} {f17 : Int} {f18 : Int} {f19 : Int} {f20 : Int} (h : IsS46 w0 W g f0 f1 f2 f3 f4 f5 f6 f7 f8 f9 f10 f11 f12 f13 f14 f15 f16 f17 f18 f19 f20) (o : Obj) : IsS46 w0 (W.alloc o) g f0 f1 f2 f3 f4 f5 f6 f7 f8 f9 f10 f11 f12 f13 f14 f15 f16 f17 f18 f19 f20 := h.below (below_alloc (Below.refl _ _) o)
theorem IsS46.drewN {w0 W : World} {g : Nat} {f0 : Int} {f1 : Int} {f2 : Int} {f3 : Int} {f4 : Int} {f5 : Int} {f6 : Int} {f7 : Int} {f8 : Int} {f9 : Int} {f10 : Int} {f11 : Int} {f12 : Int} {f13 : Bool} {f14 : Int} {f15 : Int} {f16 : Int} {f17 : Int} {f18 : Int} {f19 : Int} {f20 : Int} (h : IsS46 w0 W g f0 f1 f2 f3 f4 f5 f6 f7 f8 f9 f10 f11 f12 f13 f14 f15 f16 f17 f18 f19 f20) (m : Nat) : IsS46 w0 (W.drewN m) g f0 f1 f2 f3 f4 f5 f6 f7 f8 f9 f10 f11 f12 f13 f14 f15 f16 f17 f18 f19 f20 := h
theorem IsS46.drew {w0 W : World} {g : Nat} {f0 : Int} {f1 : Int} {f2 : Int} {f3 : Int} {f4 : Int} {f5 : Int} {f6 : Int} {f7 : Int} {f8 : Int} {f9 : Int} {f10 : Int} {f11 : Int} {f12 : Int} {f13 : Bool} {f14 : Int} {f15 : Int} {f16 : Int} {f17 : Int} {f18 : Int} {f19 : Int} {f20 : Int} (h : IsS46 w0 W g f0 f1 f2 f3 f4 f5 f6 f7 f8 f9 f10 f11 f12 f13 f14 f15 f16 f17 f18 f19 f20) : IsS46 w0 W.drew g f0 f1 f2 f3 f4 f5 f6 f7 f8 f9 f10 f11 f12 f13 f14 f15 f16 f17 f18 f19 f20 := h
theorem IsS46.at_ {w0 W : World} {g : Nat} {f0 : Int} {f1 : Int} {f2 : Int} {f3 : Int} {f4 : Int} {f5 : Int} {f6 : Int} {f7 : Int} {f8 : Int} {f9 : Int} {f10 : Int} {f11 : Int} {f12 : Int} {f13 : Bool} {f14 : Int} {f15 : Int} {f16 : Int} {f17 : Int} {f18 : Int} {f19 : Int} {f20 : Int} {w' : World} {m : Nat} (hq : W.drewN m = w') (h : IsS46 w0 W g f0 f1 f2 f3 f4 f5 f6 f7 f8 f9 f10 f11 f12 f13 f14 f15 f16 f17 f18 f19 f20) : IsS46 w0 w' g f0 f1 f2 f3 f4 f5 f6 f7 f8 f9 f10 f11 f12 f13 f14 f15 f16 f17 f18 f19 f20 := by subst hq; exact IsS46.drewN h m
theorem IsS46.apart {w0 W : World} {g : Nat} {f0 : Int} {f1 : Int} {f2 : Int} {f3 : Int} {f4 : Int} {f5 : Int} {f6 : Int} {f7 : Int} {f8 : Int} {f9 : Int} {f10 : Int} {f11 : Int} {f12 : Int} {f13 : Bool} {f14 : Int} {f15 : Int} {f16 : Int} {f17 : Int} {f18 : Int} {f19 : Int} {f20 : Int} {α : Type} {d : Kd α} {e : Nat} {base : Nat} {ok : Nat → Prop} {v : Value} {xs : List α} (h : IsS46 w0 W g f0 f1 f2 f3 f4 f5 f6 f7 f8 f9 f10 f11 f12 f13 f14 f15 f16 f17 f18 f19 f20) (ho : d.R e W base ok v xs) (ht : ∀ q, q ∈ e :: d.E → q ≠ 46) : d.R e W base (fun k => ok k ∧ k ≠ g) v xs := by
 obtain ⟨hb, hg⟩ := h
 exact Kd.R_types ho hb ht
theorem IsS46.own_ne {w0 W : World} {g : Nat} {f0 : Int} {f1 : Int} {f2 : Int} {f3 : Int} {f4 : Int} {f5 : Int} {f6 : Int} {f7 : Int} {f8 : Int} {f9 : Int} {f10 : Int} {f11 : Int} {f12 : Int} {f13 : Bool} {f14 : Int} {f15 : Int} {f16 : Int} {f17 : Int} {f18 : Int} {f19 : Int} {f20 : Int} {α : Type} {d : Kd α} {e : Nat} {base : Nat} {ok : Nat → Prop} {v : Value} {xs : List α} (h : IsS46 w0 W g f0 f1 f2 f3 f4 f5 f6 f7 f8 f9 f10 f11 f12 f13 f14 f15 f16 f17 f18 f19 f20) (ho : d.R e W base ok v xs) (ht : e ≠ 46) : some g ≠ v.ownBlock := by
 obtain ⟨hb, hg⟩ := h
 exact Kd.R_ne ho hb ht
theorem IsS46.apartQ {w0 W : World} {g : Nat} {f0 : Int} {f1 : Int} {f2 : Int} {f3 : Int} {f4 : Int} {f5 : Int} {f6 : Int} {f7 : Int} {f8 : Int} {f9 : Int} {f10 : Int} {f11 : Int} {f12 : Int} {f13 : Bool} {f14 : Int} {f15 : Int} {f16 : Int} {f17 : Int} {f18 : Int} {f19 : Int} {f20 : Int} {α : Type} {d : Kd α} {e : Nat} {base : Nat} {ok : Nat → Prop} {v : Value} {xs : List α} (h : IsS46 w0 W g f0 f1 f2 f3 f4 f5 f6 f7 f8 f9 f10 f11 f12 f13 f14 f15 f16 f17 f18 f19 f20) (ho : d.Q e W base ok v xs) (ht : ∀ q, q ∈ e :: d.E → q ≠ 46) : d.Q e W base (fun k => ok k ∧ k ≠ g) v xs := by
 obtain ⟨hb, hg⟩ := h
 exact Kd.Q_types ho hb ht
theorem IsS46.own_neQ {w0 W : World} {g : Nat} {f0 : Int} {f1 : Int} {f2 : Int} {f3 : Int} {f4 : Int} {f5 : Int} {f6 : Int} {f7 : Int} {f8 : Int} {f9 : Int} {f10 : Int} {f11 : Int} {f12 : Int} {f13 : Bool} {f14 : Int} {f15 : Int} {f16 : Int} {f17 : Int} {f18 : Int} {f19 : Int} {f20 : Int} {α : Type} {d : Kd α} {e : Nat} {base : Nat} {ok : Nat → Prop} {v : Value} {xs : List α} (h : IsS46 w0 W g f0 f1 f2 f3 f4 f5 f6 f7 f8 f9 f10 f11 f12 f13 f14 f15 f16 f17 f18 f19 f20) (ho : d.Q e W base ok v xs) (ht : e ≠ 46) : some g ≠ v.ownBlock := by
 obtain ⟨hb, hg⟩ := h
 exact Kd.Q_ne ho hb ht
theorem IsS46.apartS {w0 W : World} {g : Nat} {f0 : Int} {f1 : Int} {f2 : Int} {f3 : Int} {f4 : Int} {f5 : Int} {f6 : Int} {f7 : Int} {f8 : Int} {f9 : Int} {f10 : Int} {f11 : Int} {f12 : Int} {f13 : Bool} {f14 : Int} {f15 : Int} {f16 : Int} {f17 : Int} {f18 : Int} {f19 : Int} {f20 : Int} {α : Type} {d : Kd α} {e : Nat} {base : Nat} {ok : Nat → Prop} {v : Value} {xs : List α} (h : IsS46 w0 W g f0 f1 f2 f3 f4 f5 f6 f7 f8 f9 f10 f11 f12 f13 f14 f15 f16 f17 f18 f19 f20) (ho : d.S e W base ok v xs) (ht : ∀ q, q ∈ e :: d.E → q ≠ 46) : d.S e W base (fun k => ok k ∧ k ≠ g) v xs := by
 obtain ⟨hb, hg⟩ := h
 exact Kd.S_types ho hb ht
theorem IsS46.own_neS {w0 W : World} {g : Nat} {f0 : Int} {f1 : Int} {f2 : Int} {f3 : Int} {f4 : Int} {f5 : Int} {f6 : Int} {f7 : Int} {f8 : Int} {f9 : Int} {f10 : Int} {f11 : Int} {f12 : Int} {f13 : Bool} {f14 : Int} {f15 : Int} {f16 : Int} {f17 : Int} {f18 : Int} {f19 : Int} {f20 : Int} {α : Type} {d : Kd α} {e : Nat} {base : Nat} {ok : Nat → Prop} {v : Value} {xs : List α} (h : IsS46 w0 W g f0 f1 f2 f3 f4 f5 f6 f7 f8 f9 f10 f11 f12 f13 f14 f15 f16 f17 f18 f19 f20) (ho : d.S e W base ok v xs) (ht : e ≠ 46) : some g ≠ v.ownBlock := by
 obtain ⟨hb, hg⟩ := h
 exact Kd.S_ne ho hb ht
theorem IsS46.lt {w0 W : World} {g : Nat} {f0 : Int} {f1 : Int} {f2 : Int} {f3 : Int} {f4 : Int} {f5 : Int} {f6 : Int} {f7 : Int} {f8 : Int} {f9 : Int} {f10 : Int} {f11 : Int} {f12 : Int} {f13 : Bool} {f14 : Int} {f15 : Int} {f16 : Int} {f17 : Int} {f18 : Int} {f19 : Int} {f20 : Int} (h : IsS46 w0 W g f0 f1 f2 f3 f4 f5 f6 f7 f8 f9 f10 f11 f12 f13 f14 f15 f16 f17 f18 f19 f20) : g < W.heap.size := by
 obtain ⟨hb, hg⟩ := h
 exact blk_lt hb
theorem IsS46.ge {w0 W : World} {g : Nat} {f0 : Int} {f1 : Int} {f2 : Int} {f3 : Int} {f4 : Int} {f5 : Int} {f6 : Int} {f7 : Int} {f8 : Int} {f9 : Int} {f10 : Int} {f11 : Int} {f12 : Int} {f13 : Bool} {f14 : Int} {f15 : Int} {f16 : Int} {f17 : Int} {f18 : Int} {f19 : Int} {f20 : Int} (h : IsS46 w0 W g f0 f1 f2 f3 f4 f5 f6 f7 f8 f9 f10 f11 f12 f13 f14 f15 f16 f17 f18 f19 f20) : w0.heap.size ≤ g := by
 obtain ⟨hb, hg⟩ := h
 exact hg
theorem IsS46.ne_blk {w0 W : World} {g : Nat} {f0 : Int} {f1 : Int} {f2 : Int} {f3 : Int} {f4 : Int} {f5 : Int} {f6 : Int} {f7 : Int} {f8 : Int} {f9 : Int} {f10 : Int} {f11 : Int} {f12 : Int} {f13 : Bool} {f14 : Int} {f15 : Int} {f16 : Int} {f17 : Int} {f18 : Int} {f19 : Int} {f20 : Int} {a : Nat} {cs : Array Value} {t : TypeId} {fr : Nat × Nat} (h : IsS46 w0 W g f0 f1 f2 f3 f4 f5 f6 f7 f8 f9 f10 f11 f12 f13 f14 f15 f16 f17 f18 f19 f20) (hb2 : W.heap[a]? = some (.cells cs t fr)) (ht : t ≠ 46) : g ≠ a := by
 obtain ⟨hb, hg⟩ := h
 rintro rfl
 rw [hb] at hb2
 injection hb2 with hb2
 injection hb2 with _ ht2
 exact ht ht2.symm
theorem IsS46.far {w0 W : World} {g : Nat} {f0 : Int} {f1 : Int} {f2 : Int} {f3 : Int} {f4 : Int} {f5 : Int} {f6 : Int} {f7 : Int} {f8 : Int} {f9 : Int} {f10 : Int} {f11 : Int} {f12 : Int} {f13 : Bool} {f14 : Int} {f15 : Int} {f16 : Int} {f17 : Int} {f18 : Int} {f19 : Int} {f20 : Int} {p : Addr} (h : IsS46 w0 W g f0 f1 f2 f3 f4 f5 f6 f7 f8 f9 f10 f11 f12 f13 f14 f15 f16 f17 f18 f19 f20) (hne : g ≠ p.block) (u : Value) : IsS46 w0 (W.setCell p u) g f0 f1 f2 f3 f4 f5 f6 f7 f8 f9 f10 f11 f12 f13 f14 f15 f16 f17 f18 f19 f20 := by
 obtain ⟨hb, hg⟩ := h
 exact ⟨blk_far hb hne u, hg⟩
theorem cellS46_0 {W : World} {g : Nat} {f0 : Int} {f1 : Int} {f2 : Int} {f3 : Int} {f4 : Int} {f5 : Int} {f6 : Int} {f7 : Int} {f8 : Int} {f9 : Int} {f10 : Int} {f11 : Int} {f12 : Int} {f13 : Bool} {f14 : Int} {f15 : Int} {f16 : Int} {f17 : Int} {f18 : Int} {f19 : Int} {f20 : Int} (h : W.heap[g]? = some (.cells #[.int .u64 f0, .int .u64 f1, .int .u64 f2, .int .u64 f3, .int .i64 f4, .int .i64 f5, .int .u64 f6, .int .u64 f7, .int .u64 f8, .int .u64 f9, .int .i64 f10, .int .i64 f11, .int .u64 f12, .bool f13, .int .u64 f14, .int .u64 f15, .int .u64 f16, .int .u64 f17, .int .u64 f18, .int .i64 f19, .int .i64 f20] 46 (0, 0))) : W.cell? ⟨g, 0, none⟩ = some (.int .u64 f0) := (blk_cell h 0).trans rfl
theorem IsS46.set_0 {w0 W : World} {g : Nat} {f0 : Int} {f1 : Int} {f2 : Int} {f3 : Int} {f4 : Int} {f5 : Int} {f6 : Int} {f7 : Int} {f8 : Int} {f9 : Int} {f10 : Int} {f11 : Int} {f12 : Int} {f13 : Bool} {f14 : Int} {f15 : Int} {f16 : Int} {f17 : Int} {f18 : Int} {f19 : Int} {f20 : Int} (h : IsS46 w0 W g f0 f1 f2 f3 f4 f5 f6 f7 f8 f9 f10 f11 f12 f13 f14 f15 f16 f17 f18 f19 f20) (x : Int) : IsS46 w0 (W.setCell ⟨g, 0, none⟩ (.int .u64 x)) g x f1 f2 f3 f4 f5 f6 f7 f8 f9 f10 f11 f12 f13 f14 f15 f16 f17 f18 f19 f20 := by
 obtain ⟨hb, hg⟩ := h
 exact ⟨by simpa using blk_set hb 0 (.int .u64 x), hg⟩
theorem cellS46_1 {W : World} {g : Nat} {f0 : Int} {f1 : Int} {f2 : Int} {f3 : Int} {f4 : Int} {f5 : Int} {f6 : Int} {f7 : Int} {f8 : Int} {f9 : Int} {f10 : Int} {f11 : Int} {f12 : Int} {f13 : Bool} {f14 : Int} {f15 : Int} {f16 : Int} {f17 : Int} {f18 : Int} {f19 : Int} {f20 : Int} (h : W.heap[g]? = some (.cells #[.int .u64 f0, .int .u64 f1, .int .u64 f2, .int .u64 f3, .int .i64 f4, .int .i64 f5, .int .u64 f6, .int .u64 f7, .int .u64 f8, .int .u64 f9, .int .i64 f10, .int .i64 f11, .int .u64 f12, .bool f13, .int .u64 f14, .int .u64 f15, .int .u64 f16, .int .u64 f17, .int .u64 f18, .int .i64 f19, .int .i64 f20] 46 (0, 0))) : W.cell? ⟨g, 1, none⟩ = some (.int .u64 f1) := (blk_cell h 1).trans rfl
theorem IsS46.set_1 {w0 W : World} {g : Nat} {f0 : Int} {f1 : Int} {f2 : Int} {f3 : Int} {f4 : Int} {f5 : Int} {f6 : Int} {f7 : Int} {f8 : Int} {f9 : Int} {f10 : Int} {f11 : Int} {f12 : Int} {f13 : Bool} {f14 : Int} {f15 : Int} {f16 : Int} {f17 : Int} {f18 : Int} {f19 : Int} {f20 : Int} (h : IsS46 w0 W g f0 f1 f2 f3 f4 f5 f6 f7 f8 f9 f10 f11 f12 f13 f14 f15 f16 f17 f18 f19 f20) (x : Int) : IsS46 w0 (W.setCell ⟨g, 1, none⟩ (.int .u64 x)) g f0 x f2 f3 f4 f5 f6 f7 f8 f9 f10 f11 f12 f13 f14 f15 f16 f17 f18 f19 f20 := by
 obtain ⟨hb, hg⟩ := h
 exact ⟨by simpa using blk_set hb 1 (.int .u64 x), hg⟩
theorem cellS46_2 {W : World} {g : Nat} {f0 : Int} {f1 : Int} {f2 : Int} {f3 : Int} {f4 : Int} {f5 : Int} {f6 : Int} {f7 : Int} {f8 : Int} {f9 : Int} {f10 : Int} {f11 : Int} {f12 : Int} {f13 : Bool} {f14 : Int} {f15 : Int} {f16 : Int} {f17 : Int} {f18 : Int} {f19 : Int} {f20 : Int} (h : W.heap[g]? = some (.cells #[.int .u64 f0, .int .u64 f1, .int .u64 f2, .int .u64 f3, .int .i64 f4, .int .i64 f5, .int .u64 f6, .int .u64 f7, .int .u64 f8, .int .u64 f9, .int .i64 f10, .int .i64 f11, .int .u64 f12, .bool f13, .int .u64 f14, .int .u64 f15, .int .u64 f16, .int .u64 f17, .int .u64 f18, .int .i64 f19, .int .i64 f20] 46 (0, 0))) : W.cell? ⟨g, 2, none⟩ = some (.int .u64 f2) := (blk_cell h 2).trans rfl
theorem IsS46.set_2 {w0 W : World} {g : Nat} {f0 : Int} {f1 : Int} {f2 : Int} {f3 : Int} {f4 : Int} {f5 : Int} {f6 : Int} {f7 : Int} {f8 : Int} {f9 : Int} {f10 : Int} {f11 : Int} {f12 : Int} {f13 : Bool} {f14 : Int} {f15 : Int} {f16 : Int} {f17 : Int} {f18 : Int} {f19 : Int} {f20 : Int} (h : IsS46 w0 W g f0 f1 f2 f3 f4 f5 f6 f7 f8 f9 f10 f11 f12 f13 f14 f15 f16 f17 f18 f19 f20) (x : Int) : IsS46 w0 (W.setCell ⟨g, 2, none⟩ (.int .u64 x)) g f0 f1 x f3 f4 f5 f6 f7 f8 f9 f10 f11 f12 f13 f14 f15 f16 f17 f18 f19 f20 := by
 obtain ⟨hb, hg⟩ := h
 exact ⟨by simpa using blk_set hb 2 (.int .u64 x), hg⟩
theorem cellS46_3 {W : World} {g : Nat} {f0 : Int} {f1 : Int} {f2 : Int} {f3 : Int} {f4 : Int} {f5 : Int} {f6 : Int} {f7 : Int} {f8 : Int} {f9 : Int} {f10 : Int} {f11 : Int} {f12 : Int} {f13 : Bool} {f14 : Int} {f15 : Int} {f16 : Int} {f17 : Int} {f18 : Int} {f19 : Int} {f20 : Int} (h : W.heap[g]? = some (.cells #[.int .u64 f0, .int .u64 f1, .int .u64 f2, .int .u64 f3, .int .i64 f4, .int .i64 f5, .int .u64 f6, .int .u64 f7, .int .u64 f8, .int .u64 f9, .int .i64 f10, .int .i64 f11, .int .u64 f12, .bool f13, .int .u64 f14, .int .u64 f15, .int .u64 f16, .int .u64 f17, .int .u64 f18, .int .i64 f19, .int .i64 f20] 46 (0, 0))) : W.cell? ⟨g, 3, none⟩ = some (.int .u64 f3) := (blk_cell h 3).trans rfl
theorem IsS46.set_3 {w0 W : World} {g : Nat} {f0 : Int} {f1 : Int} {f2 : Int} {f3 : Int} {f4 : Int} {f5 : Int} {f6 : Int} {f7 : Int} {f8 : Int} {f9 : Int} {f10 : Int} {f11 : Int} {f12 : Int} {f13 : Bool} {f14 : Int} {f15 : Int} {f16 : Int} {f17 : Int} {f18 : Int} {f19 : Int} {f20 : Int} (h : IsS46 w0 W g f0 f1 f2 f3 f4 f5 f6 f7 f8 f9 f10 f11 f12 f13 f14 f15 f16 f17 f18 f19 f20) (x : Int) : IsS46 w0 (W.setCell ⟨g, 3, none⟩ (.int .u64 x)) g f0 f1 f2 x f4 f5 f6 f7 f8 f9 f10 f11 f12 f13 f14 f15 f16 f17 f18 f19 f20 := by
 obtain ⟨hb, hg⟩ := h
 exact ⟨by simpa using blk_set hb 3 (.int .u64 x), hg⟩
theorem cellS46_4 {W : World} {g : Nat} {f0 : Int} {f1 : Int} {f2 : Int} {f3 : Int} {f4 : Int} {f5 : Int} {f6 : Int} {f7 : Int} {f8 : Int} {f9 : Int} {f10 : Int} {f11 : Int} {f12 : Int} {f13 : Bool} {f14 : Int} {f15 : Int} {f16 : Int} {f17 : Int} {f18 : Int} {f19 : Int} {f20 : Int} (h : W.heap[g]? = some (.cells #[.int .u64 f0, .int .u64 f1, .int .u64 f2, .int .u64 f3, .int .i64 f4, .int .i64 f5, .int .u64 f6, .int .u64 f7, .int .u64 f8, .int .u64 f9, .int .i64 f10, .int .i64 f11, .int .u64 f12, .bool f13, .int .u64 f14, .int .u64 f15, .int .u64 f16, .int .u64 f17, .int .u64 f18, .int .i64 f19, .int .i64 f20] 46 (0, 0))) : W.cell? ⟨g, 4, none⟩ = some (.int .i64 f4) := (blk_cell h 4).trans rfl
theorem IsS46.set_4 {w0 W : World} {g : Nat} {f0 : Int} {f1 : Int} {f2 : Int} {f3 : Int} {f4 : Int} {f5 : Int} {f6 : Int} {f7 : Int} {f8 : Int} {f9 : Int} {f10 : Int} {f11 : Int} {f12 : Int} {f13 : Bool} {f14 : Int} {f15 : Int} {f16 : Int} {f17 : Int} {f18 : Int} {f19 : Int} {f20 : Int} (h : IsS46 w0 W g f0 f1 f2 f3 f4 f5 f6 f7 f8 f9 f10 f11 f12 f13 f14 f15 f16 f17 f18 f19 f20) (x : Int) : IsS46 w0 (W.setCell ⟨g, 4, none⟩ (.int .i64 x)) g f0 f1 f2 f3 x f5 f6 f7 f8 f9 f10 f11 f12 f13 f14 f15 f16 f17 f18 f19 f20 := by
 obtain ⟨hb, hg⟩ := h
 exact ⟨by simpa using blk_set hb 4 (.int .i64 x), hg⟩
theorem cellS46_5 {W : World} {g : Nat} {f0 : Int} {f1 : Int} {f2 : Int} {f3 : Int} {f4 : Int} {f5 : Int} {f6 : Int} {f7 : Int} {f8 : Int} {f9 : Int} {f10 : Int} {f11 : Int} {f12 : Int} {f13 : Bool} {f14 : Int} {f15 : Int} {f16 : Int} {f17 : Int} {f18 : Int} {f19 : Int} {f20 : Int} (h : W.heap[g]? = some (.cells #[.int .u64 f0, .int .u64 f1, .int .u64 f2, .int .u64 f3, .int .i64 f4, .int .i64 f5, .int .u64 f6, .int .u64 f7, .int .u64 f8, .int .u64 f9, .int .i64 f10, .int .i64 f11, .int .u64 f12, .bool f13, .int .u64 f14, .int .u64 f15, .int .u64 f16, .int .u64 f17, .int .u64 f18, .int .i64 f19, .int .i64 f20] 46 (0, 0))) : W.cell? ⟨g, 5, none⟩ = some (.int .i64 f5) := (blk_cell h 5).trans rfl
theorem IsS46.set_5 {w0 W : World} {g : Nat} {f0 : Int} {f1 : Int} {f2 : Int} {f3 : Int} {f4 : Int} {f5 : Int} {f6 : Int} {f7 : Int} {f8 : Int} {f9 : Int} {f10 : Int} {f11 : Int} {f12 : Int} {f13 : Bool} {f14 : Int} {f15 : Int} {f16 : Int} {f17 : Int} {f18 : Int} {f19 : Int} {f20 : Int} (h : IsS46 w0 W g f0 f1 f2 f3 f4 f5 f6 f7 f8 f9 f10 f11 f12 f13 f14 f15 f16 f17 f18 f19 f20) (x : Int) : IsS46 w0 (W.setCell ⟨g, 5, none⟩ (.int .i64 x)) g f0 f1 f2 f3 f4 x f6 f7 f8 f9 f10 f11 f12 f13 f14 f15 f16 f17 f18 f19 f20 := by
 obtain ⟨hb, hg⟩ := h
 exact ⟨by simpa using blk_set hb 5 (.int .i64 x), hg⟩
theorem cellS46_6 {W : World} {g : Nat} {f0 : Int} {f1 : Int} {f2 : Int} {f3 : Int} {f4 : Int} {f5 : Int} {f6 : Int} {f7 : Int} {f8 : Int} {f9 : Int} {f10 : Int} {f11 : Int} {f12 : Int} {f13 : Bool} {f14 : Int} {f15 : Int} {f16 : Int} {f17 : Int} {f18 : Int} {f19 : Int} {f20 : Int} (h : W.heap[g]? = some (.cells #[.int .u64 f0, .int .u64 f1, .int .u64 f2, .int .u64 f3, .int .i64 f4, .int .i64 f5, .int .u64 f6, .int .u64 f7, .int .u64 f8, .int .u64 f9, .int .i64 f10, .int .i64 f11, .int .u64 f12, .bool f13, .int .u64 f14, .int .u64 f15, .int .u64 f16, .int .u64 f17, .int .u64 f18, .int .i64 f19, .int .i64 f20] 46 (0, 0))) : W.cell? ⟨g, 6, none⟩ = some (.int .u64 f6) := (blk_cell h 6).trans rfl
theorem IsS46.set_6 {w0 W : World} {g : Nat} {f0 : Int} {f1 : Int} {f2 : Int} {f3 : Int} {f4 : Int} {f5 : Int} {f6 : Int} {f7 : Int} {f8 : Int} {f9 : Int} {f10 : Int} {f11 : Int} {f12 : Int} {f13 : Bool} {f14 : Int} {f15 : Int} {f16 : Int} {f17 : Int} {f18 : Int} {f19 : Int} {f20 : Int} (h : IsS46 w0 W g f0 f1 f2 f3 f4 f5 f6 f7 f8 f9 f10 f11 f12 f13 f14 f15 f16 f17 f18 f19 f20) (x : Int) : IsS46 w0 (W.setCell ⟨g, 6, none⟩ (.int .u64 x)) g f0 f1 f2 f3 f4 f5 x f7 f8 f9 f10 f11 f12 f13 f14 f15 f16 f17 f18 f19 f20 := by
 obtain ⟨hb, hg⟩ := h
 exact ⟨by simpa using blk_set hb 6 (.int .u64 x), hg⟩
theorem cellS46_7 {W : World} {g : Nat} {f0 : Int} {f1 : Int} {f2 : Int} {f3 : Int} {f4 : Int} {f5 : Int} {f6 : Int} {f7 : Int} {f8 : Int} {f9 : Int} {f10 : Int} {f11 : Int} {f12 : Int} {f13 : Bool} {f14 : Int} {f15 : Int} {f16 : Int} {f17 : Int} {f18 : Int} {f19 : Int} {f20 : Int} (h : W.heap[g]? = some (.cells #[.int .u64 f0, .int .u64 f1, .int .u64 f2, .int .u64 f3, .int .i64 f4, .int .i64 f5, .int .u64 f6, .int .u64 f7, .int .u64 f8, .int .u64 f9, .int .i64 f10, .int .i64 f11, .int .u64 f12, .bool f13, .int .u64 f14, .int .u64 f15, .int .u64 f16, .int .u64 f17, .int .u64 f18, .int .i64 f19, .int .i64 f20] 46 (0, 0))) : W.cell? ⟨g, 7, none⟩ = some (.int .u64 f7) := (blk_cell h 7).trans rfl
theorem IsS46.set_7 {w0 W : World} {g : Nat} {f0 : Int} {f1 : Int} {f2 : Int} {f3 : Int} {f4 : Int} {f5 : Int} {f6 : Int} {f7 : Int} {f8 : Int} {f9 : Int} {f10 : Int} {f11 : Int} {f12 : Int} {f13 : Bool} {f14 : Int} {f15 : Int} {f16 : Int} {f17 : Int} {f18 : Int} {f19 : Int} {f20 : Int} (h : IsS46 w0 W g f0 f1 f2 f3 f4 f5 f6 f7 f8 f9 f10 f11 f12 f13 f14 f15 f16 f17 f18 f19 f20) (x : Int) : IsS46 w0 (W.setCell ⟨g, 7, none⟩ (.int .u64 x)) g f0 f1 f2 f3 f4 f5 f6 x f8 f9 f10 f11 f12 f13 f14 f15 f16 f17 f18 f19 f20 := by
 obtain ⟨hb, hg⟩ := h
 exact ⟨by simpa using blk_set hb 7 (.int .u64 x), hg⟩
theorem cellS46_8 {W : World} {g : Nat} {f0 : Int} {f1 : Int} {f2 : Int} {f3 : Int} {f4 : Int} {f5 : Int} {f6 : Int} {f7 : Int} {f8 : Int} {f9 : Int} {f10 : Int} {f11 : Int} {f12 : Int} {f13 : Bool} {f14 : Int} {f15 : Int} {f16 : Int} {f17 : Int} {f18 : Int} {f19 : Int} {f20 : Int} (h : W.heap[g]? = some (.cells #[.int .u64 f0, .int .u64 f1, .int .u64 f2, .int .u64 f3, .int .i64 f4, .int .i64 f5, .int .u64 f6, .int .u64 f7, .int .u64 f8, .int .u64 f9, .int .i64 f10, .int .i64 f11, .int .u64 f12, .bool f13, .int .u64 f14, .int .u64 f15, .int .u64 f16, .int .u64 f17, .int .u64 f18, .int .i64 f19, .int .i64 f20] 46 (0, 0))) : W.cell? ⟨g, 8, none⟩ = some (.int .u64 f8) := (blk_cell h 8).trans rfl
theorem IsS46.set_8 {w0 W : World} {g : Nat} {f0 : Int} {f1 : Int} {f2 : Int} {f3 : Int} {f4 : Int} {f5 : Int} {f6 : Int} {f7 : Int} {f8 : Int} {f9 : Int} {f10 : Int} {f11 : Int} {f12 : Int} {f13 : Bool} {f14 : Int} {f15 : Int} {f16 : Int} {f17 : Int} {f18 : Int} {f19 : Int} {f20 : Int} (h : IsS46 w0 W g f0 f1 f2 f3 f4 f5 f6 f7 f8 f9 f10 f11 f12 f13 f14 f15 f16 f17 f18 f19 f20) (x : Int) : IsS46 w0 (W.setCell ⟨g, 8, none⟩ (.int .u64 x)) g f0 f1 f2 f3 f4 f5 f6 f7 x f9 f10 f11 f12 f13 f14 f15 f16 f17 f18 f19 f20 := by
 obtain ⟨hb, hg⟩ := h
 exact ⟨by simpa using blk_set hb 8 (.int .u64 x), hg⟩
theorem cellS46_9 {W : World} {g : Nat} {f0 : Int} {f1 : Int} {f2 : Int} {f3 : Int} {f4 : Int} {f5 : Int} {f6 : Int} {f7 : Int} {f8 : Int} {f9 : Int} {f10 : Int} {f11 : Int} {f12 : Int} {f13 : Bool} {f14 : Int} {f15 : Int} {f16 : Int} {f17 : Int} {f18 : Int} {f19 : Int} {f20 : Int} (h : W.heap[g]? = some (.cells #[.int .u64 f0, .int .u64 f1, .int .u64 f2, .int .u64 f3, .int .i64 f4, .int .i64 f5, .int .u64 f6, .int .u64 f7, .int .u64 f8, .int .u64 f9, .int .i64 f10, .int .i64 f11, .int .u64 f12, .bool f13, .int .u64 f14, .int .u64 f15, .int .u64 f16, .int .u64 f17, .int .u64 f18, .int .i64 f19, .int .i64 f20] 46 (0, 0))) : W.cell? ⟨g, 9, none⟩ = some (.int .u64 f9) := (blk_cell h 9).trans rfl
theorem IsS46.set_9 {w0 W : World} {g : Nat} {f0 : Int} {f1 : Int} {f2 : Int} {f3 : Int} {f4 : Int} {f5 : Int} {f6 : Int} {f7 : Int} {f8 : Int} {f9 : Int} {f10 : Int} {f11 : Int} {f12 : Int} {f13 : Bool} {f14 : Int} {f15 : Int} {f16 : Int} {f17 : Int} {f18 : Int} {f19 : Int} {f20 : Int} (h : IsS46 w0 W g f0 f1 f2 f3 f4 f5 f6 f7 f8 f9 f10 f11 f12 f13 f14 f15 f16 f17 f18 f19 f20) (x : Int) : IsS46 w0 (W.setCell ⟨g, 9, none⟩ (.int .u64 x)) g f0 f1 f2 f3 f4 f5 f6 f7 f8 x f10 f11 f12 f13 f14 f15 f16 f17 f18 f19 f20 := by
 obtain ⟨hb, hg⟩ := h
 exact ⟨by simpa using blk_set hb 9 (.int .u64 x), hg⟩
theorem cellS46_10 {W : World} {g : Nat} {f0 : Int} {f1 : Int} {f2 : Int} {f3 : Int} {f4 : Int} {f5 : Int} {f6 : Int} {f7 : Int} {f8 : Int} {f9 : Int} {f10 : Int} {f11 : Int} {f12 : Int} {f13 : Bool} {f14 : Int} {f15 : Int} {f16 : Int} {f17 : Int} {f18 : Int} {f19 : Int} {f20 : Int} (h : W.heap[g]? = some (.cells #[.int .u64 f0, .int .u64 f1, .int .u64 f2, .int .u64 f3, .int .i64 f4, .int .i64 f5, .int .u64 f6, .int .u64 f7, .int .u64 f8, .int .u64 f9, .int .i64 f10, .int .i64 f11, .int .u64 f12, .bool f13, .int .u64 f14, .int .u64 f15, .int .u64 f16, .int .u64 f17, .int .u64 f18, .int .i64 f19, .int .i64 f20] 46 (0, 0))) : W.cell? ⟨g, 10, none⟩ = some (.int .i64 f10) := (blk_cell h 10).trans rfl
theorem IsS46.set_10 {w0 W : World} {g : Nat} {f0 : Int} {f1 : Int} {f2 : Int} {f3 : Int} {f4 : Int} {f5 : Int} {f6 : Int} {f7 : Int} {f8 : Int} {f9 : Int} {f10 : Int} {f11 : Int} {f12 : Int} {f13 : Bool} {f14 : Int} {f15 : Int} {f16 : Int} {f17 : Int} {f18 : Int} {f19 : Int} {f20 : Int} (h : IsS46 w0 W g f0 f1 f2 f3 f4 f5 f6 f7 f8 f9 f10 f11 f12 f13 f14 f15 f16 f17 f18 f19 f20) (x : Int) : IsS46 w0 (W.setCell ⟨g, 10, none⟩ (.int .i64 x)) g f0 f1 f2 f3 f4 f5 f6 f7 f8 f9 x f11 f12 f13 f14 f15 f16 f17 f18 f19 f20 := by
 obtain ⟨hb, hg⟩ := h
 exact ⟨by simpa using blk_set hb 10 (.int .i64 x), hg⟩
theorem cellS46_11 {W : World} {g : Nat} {f0 : Int} {f1 : Int} {f2 : Int} {f3 : Int} {f4 : Int} {f5 : Int} {f6 : Int} {f7 : Int} {f8 : Int} {f9 : Int} {f10 : Int} {f11 : Int} {f12 : Int} {f13 : Bool} {f14 : Int} {f15 : Int} {f16 : Int} {f17 : Int} {f18 : Int} {f19 : Int} {f20 : Int} (h : W.heap[g]? = some (.cells #[.int .u64 f0, .int .u64 f1, .int .u64 f2, .int .u64 f3, .int .i64 f4, .int .i64 f5, .int .u64 f6, .int .u64 f7, .int .u64 f8, .int .u64 f9, .int .i64 f10, .int .i64 f11, .int .u64 f12, .bool f13, .int .u64 f14, .int .u64 f15, .int .u64 f16, .int .u64 f17, .int .u64 f18, .int .i64 f19, .int .i64 f20] 46 (0, 0))) : W.cell? ⟨g, 11, none⟩ = some (.int .i64 f11) := (blk_cell h 11).trans rfl
theorem IsS46.set_11 {w0 W : World} {g : Nat} {f0 : Int} {f1 : Int} {f2 : Int} {f3 : Int} {f4 : Int} {f5 : Int} {f6 : Int} {f7 : Int} {f8 : Int} {f9 : Int} {f10 : Int} {f11 : Int} {f12 : Int} {f13 : Bool} {f14 : Int} {f15 : Int} {f16 : Int} {f17 : Int} {f18 : Int} {f19 : Int} {f20 : Int} (h : IsS46 w0 W g f0 f1 f2 f3 f4 f5 f6 f7 f8 f9 f10 f11 f12 f13 f14 f15 f16 f17 f18 f19 f20) (x : Int) : IsS46 w0 (W.setCell ⟨g, 11, none⟩ (.int .i64 x)) g f0 f1 f2 f3 f4 f5 f6 f7 f8 f9 f10 x f12 f13 f14 f15 f16 f17 f18 f19 f20 := by
 obtain ⟨hb, hg⟩ := h
 exact ⟨by simpa using blk_set hb 11 (.int .i64 x), hg⟩
theorem cellS46_12 {W : World} {g : Nat} {f0 : Int} {f1 : Int} {f2 : Int} {f3 : Int} {f4 : Int} {f5 : Int} {f6 : Int} {f7 : Int} {f8 : Int} {f9 : Int} {f10 : Int} {f11 : Int} {f12 : Int} {f13 : Bool} {f14 : Int} {f15 : Int} {f16 : Int} {f17 : Int} {f18 : Int} {f19 : Int} {f20 : Int} (h : W.heap[g]? = some (.cells #[.int .u64 f0, .int .u64 f1, .int .u64 f2, .int .u64 f3, .int .i64 f4, .int .i64 f5, .int .u64 f6, .int .u64 f7, .int .u64 f8, .int .u64 f9, .int .i64 f10, .int .i64 f11, .int .u64 f12, .bool f13, .int .u64 f14, .int .u64 f15, .int .u64 f16, .int .u64 f17, .int .u64 f18, .int .i64 f19, .int .i64 f20] 46 (0, 0))) : W.cell? ⟨g, 12, none⟩ = some (.int .u64 f12) := (blk_cell h 12).trans rfl
theorem IsS46.set_12 {w0 W : World} {g : Nat} {f0 : Int} {f1 : Int} {f2 : Int} {f3 : Int} {f4 : Int} {f5 : Int} {f6 : Int} {f7 : Int} {f8 : Int} {f9 : Int} {f10 : Int} {f11 : Int} {f12 : Int} {f13 : Bool} {f14 : Int} {f15 : Int} {f16 : Int} {f17 : Int} {f18 : Int} {f19 : Int} {f20 : Int} (h : IsS46 w0 W g f0 f1 f2 f3 f4 f5 f6 f7 f8 f9 f10 f11 f12 f13 f14 f15 f16 f17 f18 f19 f20) (x : Int) : IsS46 w0 (W.setCell ⟨g, 12, none⟩ (.int .u64 x)) g f0 f1 f2 f3 f4 f5 f6 f7 f8 f9 f10 f11 x f13 f14 f15 f16 f17 f18 f19 f20 := by
 obtain ⟨hb, hg⟩ := h
 exact ⟨by simpa using blk_set hb 12 (.int .u64 x), hg⟩
theorem cellS46_13 {W : World} {g : Nat} {f0 : Int} {f1 : Int} {f2 : Int} {f3 : Int} {f4 : Int} {f5 : Int} {f6 : Int} {f7 : Int} {f8 : Int} {f9 : Int} {f10 : Int} {f11 : Int} {f12 : Int} {f13 : Bool} {f14 : Int} {f15 : Int} {f16 : Int} {f17 : Int} {f18 : Int} {f19 : Int} {f20 : Int} (h : W.heap[g]? = some (.cells #[.int .u64 f0, .int .u64 f1, .int .u64 f2, .int .u64 f3, .int .i64 f4, .int .i64 f5, .int .u64 f6, .int .u64 f7, .int .u64 f8, .int .u64 f9, .int .i64 f10, .int .i64 f11, .int .u64 f12, .bool f13, .int .u64 f14, .int .u64 f15, .int .u64 f16, .int .u64 f17, .int .u64 f18, .int .i64 f19, .int .i64 f20] 46 (0, 0))) : W.cell? ⟨g, 13, none⟩ = some (.bool f13) := (blk_cell h 13).trans rfl
theorem IsS46.set_13 {w0 W : World} {g : Nat} {f0 : Int} {f1 : Int} {f2 : Int} {f3 : Int} {f4 : Int} {f5 : Int} {f6 : Int} {f7 : Int} {f8 : Int} {f9 : Int} {f10 : Int} {f11 : Int} {f12 : Int} {f13 : Bool} {f14 : Int} {f15 : Int} {f16 : Int} {f17 : Int} {f18 : Int} {f19 : Int} {f20 : Int} (h : IsS46 w0 W g f0 f1 f2 f3 f4 f5 f6 f7 f8 f9 f10 f11 f12 f13 f14 f15 f16 f17 f18 f19 f20) (x : Bool) : IsS46 w0 (W.setCell ⟨g, 13, none⟩ (.bool x)) g f0 f1 f2 f3 f4 f5 f6 f7 f8 f9 f10 f11 f12 x f14 f15 f16 f17 f18 f19 f20 := by
 obtain ⟨hb, hg⟩ := h
 exact ⟨by simpa using blk_set hb 13 (.bool x), hg⟩
theorem cellS46_14 {W : World} {g : Nat} {f0 : Int} {f1 : Int} {f2 : Int} {f3 : Int} {f4 : Int} {f5 : Int} {f6 : Int} {f7 : Int} {f8 : Int} {f9 : Int} {f10 : Int} {f11 : Int} {f12 : Int} {f13 : Bool} {f14 : Int} {f15 : Int} {f16 : Int} {f17 : Int} {f18 : Int} {f19 : Int} {f20 : Int} (h : W.heap[g]? = some (.cells #[.int .u64 f0, .int .u64 f1, .int .u64 f2, .int .u64 f3, .int .i64 f4, .int .i64 f5, .int .u64 f6, .int .u64 f7, .int .u64 f8, .int .u64 f9, .int .i64 f10, .int .i64 f11, .int .u64 f12, .bool f13, .int .u64 f14, .int .u64 f15, .int .u64 f16, .int .u64 f17, .int .u64 f18, .int .i64 f19, .int .i64 f20] 46 (0, 0))) : W.cell? ⟨g, 14, none⟩ = some (.int .u64 f14) := (blk_cell h 14).trans rfl
theorem IsS46.set_14 {w0 W : World} {g : Nat} {f0 : Int} {f1 : Int} {f2 : Int} {f3 : Int} {f4 : Int} {f5 : Int} {f6 : Int} {f7 : Int} {f8 : Int} {f9 : Int} {f10 : Int} {f11 : Int} {f12 : Int} {f13 : Bool} {f14 : Int} {f15 : Int} {f16 : Int} {f17 : Int} {f18 : Int} {f19 : Int} {f20 : Int} (h : IsS46 w0 W g f0 f1 f2 f3 f4 f5 f6 f7 f8 f9 f10 f11 f12 f13 f14 f15 f16 f17 f18 f19 f20) (x : Int) : IsS46 w0 (W.setCell ⟨g, 14, none⟩ (.int .u64 x)) g f0 f1 f2 f3 f4 f5 f6 f7 f8 f9 f10 f11 f12 f13 x f15 f16 f17 f18 f19 f20 := by
 obtain ⟨hb, hg⟩ := h
 exact ⟨by simpa using blk_set hb 14 (.int .u64 x), hg⟩
theorem cellS46_15 {W : World} {g : Nat} {f0 : Int} {f1 : Int} {f2 : Int} {f3 : Int} {f4 : Int} {f5 : Int} {f6 : Int} {f7 : Int} {f8 : Int} {f9 : Int} {f10 : Int} {f11 : Int} {f12 : Int} {f13 : Bool} {f14 : Int} {f15 : Int} {f16 : Int} {f17 : Int} {f18 : Int} {f19 : Int} {f20 : Int} (h : W.heap[g]? = some (.cells #[.int .u64 f0, .int .u64 f1, .int .u64 f2, .int .u64 f3, .int .i64 f4, .int .i64 f5, .int .u64 f6, .int .u64 f7, .int .u64 f8, .int .u64 f9, .int .i64 f10, .int .i64 f11, .int .u64 f12, .bool f13, .int .u64 f14, .int .u64 f15, .int .u64 f16, .int .u64 f17, .int .u64 f18, .int .i64 f19, .int .i64 f20] 46 (0, 0))) : W.cell? ⟨g, 15, none⟩ = some (.int .u64 f15) := (blk_cell h 15).trans rfl
theorem IsS46.set_15 {w0 W : World} {g : Nat} {f0 : Int} {f1 : Int} {f2 : Int} {f3 : Int} {f4 : Int} {f5 : Int} {f6 : Int} {f7 : Int} {f8 : Int} {f9 : Int} {f10 : Int} {f11 : Int} {f12 : Int} {f13 : Bool} {f14 : Int} {f15 : Int} {f16 : Int} {f17 : Int} {f18 : Int} {f19 : Int} {f20 : Int} (h : IsS46 w0 W g f0 f1 f2 f3 f4 f5 f6 f7 f8 f9 f10 f11 f12 f13 f14 f15 f16 f17 f18 f19 f20) (x : Int) : IsS46 w0 (W.setCell ⟨g, 15, none⟩ (.int .u64 x)) g f0 f1 f2 f3 f4 f5 f6 f7 f8 f9 f10 f11 f12 f13 f14 x f16 f17 f18 f19 f20 := by
 obtain ⟨hb, hg⟩ := h
 exact ⟨by simpa using blk_set hb 15 (.int .u64 x), hg⟩
theorem cellS46_16 {W : World} {g : Nat} {f0 : Int} {f1 : Int} {f2 : Int} {f3 : Int} {f4 : Int} {f5 : Int} {f6 : Int} {f7 : Int} {f8 : Int} {f9 : Int} {f10 : Int} {f11 : Int} {f12 : Int} {f13 : Bool} {f14 : Int} {f15 : Int} {f16 : Int} {f17 : Int} {f18 : Int} {f19 : Int} {f20 : Int} (h : W.heap[g]? = some (.cells #[.int .u64 f0, .int .u64 f1, .int .u64 f2, .int .u64 f3, .int .i64 f4, .int .i64 f5, .int .u64 f6, .int .u64 f7, .int .u64 f8, .int .u64 f9, .int .i64 f10, .int .i64 f11, .int .u64 f12, .bool f13, .int .u64 f14, .int .u64 f15, .int .u64 f16, .int .u64 f17, .int .u64 f18, .int .i64 f19, .int .i64 f20] 46 (0, 0))) : W.cell? ⟨g, 16, none⟩ = some (.int .u64 f16) := (blk_cell h 16).trans rfl
theorem IsS46.set_16 {w0 W : World} {g : Nat} {f0 : Int} {f1 : Int} {f2 : Int} {f3 : Int} {f4 : Int} {f5 : Int} {f6 : Int} {f7 : Int} {f8 : Int} {f9 : Int} {f10 : Int} {f11 : Int} {f12 : Int} {f13 : Bool} {f14 : Int} {f15 : Int} {f16 : Int} {f17 : Int} {f18 : Int} {f19 : Int} {f20 : Int} (h : IsS46 w0 W g f0 f1 f2 f3 f4 f5 f6 f7 f8 f9 f10 f11 f12 f13 f14 f15 f16 f17 f18 f19 f20) (x : Int) : IsS46 w0 (W.setCell ⟨g, 16, none⟩ (.int .u64 x)) g f0 f1 f2 f3 f4 f5 f6 f7 f8 f9 f10 f11 f12 f13 f14 f15 x f17 f18 f19 f20 := by
 obtain ⟨hb, hg⟩ := h
 exact ⟨by simpa using blk_set hb 16 (.int .u64 x), hg⟩
theorem cellS46_17 {W : World} {g : Nat} {f0 : Int} {f1 : Int} {f2 : Int} {f3 : Int} {f4 : Int} {f5 : Int} {f6 : Int} {f7 : Int} {f8 : Int} {f9 : Int} {f10 : Int} {f11 : Int} {f12 : Int} {f13 : Bool} {f14 : Int} {f15 : Int} {f16 : Int} {f17 : Int} {f18 : Int} {f19 : Int} {f20 : Int} (h : W.heap[g]? = some (.cells #[.int .u64 f0, .int .u64 f1, .int .u64 f2, .int .u64 f3, .int .i64 f4, .int .i64 f5, .int .u64 f6, .int .u64 f7, .int .u64 f8, .int .u64 f9, .int .i64 f10, .int .i64 f11, .int .u64 f12, .bool f13, .int .u64 f14, .int .u64 f15, .int .u64 f16, .int .u64 f17, .int .u64 f18, .int .i64 f19, .int .i64 f20] 46 (0, 0))) : W.cell? ⟨g, 17, none⟩ = some (.int .u64 f17) := (blk_cell h 17).trans rfl
theorem IsS46.set_17 {w0 W : World} {g : Nat} {f0 : Int} {f1 : Int} {f2 : Int} {f3 : Int} {f4 : Int} {f5 : Int} {f6 : Int} {f7 : Int} {f8 : Int} {f9 : Int} {f10 : Int} {f11 : Int} {f12 : Int} {f13 : Bool} {f14 : Int} {f15 : Int} {f16 : Int} {f17 : Int} {f18 : Int} {f19 : Int} {f20 : Int} (h : IsS46 w0 W g f0 f1 f2 f3 f4 f5 f6 f7 f8 f9 f10 f11 f12 f13 f14 f15 f16 f17 f18 f19 f20) (x : Int) : IsS46 w0 (W.setCell ⟨g, 17, none⟩ (.int .u64 x)) g f0 f1 f2 f3 f4 f5 f6 f7 f8 f9 f10 f11 f12 f13 f14 f15 f16 x f18 f19 f20 := by
 obtain ⟨hb, hg⟩ := h
 exact ⟨by simpa using blk_set hb 17 (.int .u64 x), hg⟩
theorem cellS46_18 {W : World} {g : Nat} {f0 : Int} {f1 : Int} {f2 : Int} {f3 : Int} {f4 : Int} {f5 : Int} {f6 : Int} {f7 : Int} {f8 : Int} {f9 : Int} {f10 : Int} {f11 : Int} {f12 : Int} {f13 : Bool} {f14 : Int} {f15 : Int} {f16 : Int} {f17 : Int} {f18 : Int} {f19 : Int} {f20 : Int} (h : W.heap[g]? = some (.cells #[.int .u64 f0, .int .u64 f1, .int .u64 f2, .int .u64 f3, .int .i64 f4, .int .i64 f5, .int .u64 f6, .int .u64 f7, .int .u64 f8, .int .u64 f9, .int .i64 f10, .int .i64 f11, .int .u64 f12, .bool f13, .int .u64 f14, .int .u64 f15, .int .u64 f16, .int .u64 f17, .int .u64 f18, .int .i64 f19, .int .i64 f20] 46 (0, 0))) : W.cell? ⟨g, 18, none⟩ = some (.int .u64 f18) := (blk_cell h 18).trans rfl
theorem IsS46.set_18 {w0 W : World} {g : Nat} {f0 : Int} {f1 : Int} {f2 : Int} {f3 : Int} {f4 : Int} {f5 : Int} {f6 : Int} {f7 : Int} {f8 : Int} {f9 : Int} {f10 : Int} {f11 : Int} {f12 : Int} {f13 : Bool} {f14 : Int} {f15 : Int} {f16 : Int} {f17 : Int} {f18 : Int} {f19 : Int} {f20 : Int} (h : IsS46 w0 W g f0 f1 f2 f3 f4 f5 f6 f7 f8 f9 f10 f11 f12 f13 f14 f15 f16 f17 f18 f19 f20) (x : Int) : IsS46 w0 (W.setCell ⟨g, 18, none⟩ (.int .u64 x)) g f0 f1 f2 f3 f4 f5 f6 f7 f8 f9 f10 f11 f12 f13 f14 f15 f16 f17 x f19 f20 := by
 obtain ⟨hb, hg⟩ := h
 exact ⟨by simpa using blk_set hb 18 (.int .u64 x), hg⟩
theorem cellS46_19 {W : World} {g : Nat} {f0 : Int} {f1 : Int} {f2 : Int} {f3 : Int} {f4 : Int} {f5 : Int} {f6 : Int} {f7 : Int} {f8 : Int} {f9 : Int} {f10 : Int} {f11 : Int} {f12 : Int} {f13 : Bool} {f14 : Int} {f15 : Int} {f16 : Int} {f17 : Int} {f18 : Int} {f19 : Int} {f20 : Int} (h : W.heap[g]? = some (.cells #[.int .u64 f0, .int .u64 f1, .int .u64 f2, .int .u64 f3, .int .i64 f4, .int .i64 f5, .int .u64 f6, .int .u64 f7, .int .u64 f8, .int .u64 f9, .int .i64 f10, .int .i64 f11, .int .u64 f12, .bool f13, .int .u64 f14, .int .u64 f15, .int .u64 f16, .int .u64 f17, .int .u64 f18, .int .i64 f19, .int .i64 f20] 46 (0, 0))) : W.cell? ⟨g, 19, none⟩ = some (.int .i64 f19) := (blk_cell h 19).trans rfl
theorem IsS46.set_19 {w0 W : World} {g : Nat} {f0 : Int} {f1 : Int} {f2 : Int} {f3 : Int} {f4 : Int} {f5 : Int} {f6 : Int} {f7 : Int} {f8 : Int} {f9 : Int} {f10 : Int} {f11 : Int} {f12 : Int} {f13 : Bool} {f14 : Int} {f15 : Int} {f16 : Int} {f17 : Int} {f18 : Int} {f19 : Int} {f20 : Int} (h : IsS46 w0 W g f0 f1 f2 f3 f4 f5 f6 f7 f8 f9 f10 f11 f12 f13 f14 f15 f16 f17 f18 f19 f20) (x : Int) : IsS46 w0 (W.setCell ⟨g, 19, none⟩ (.int .i64 x)) g f0 f1 f2 f3 f4 f5 f6 f7 f8 f9 f10 f11 f12 f13 f14 f15 f16 f17 f18 x f20 := by
 obtain ⟨hb, hg⟩ := h
 exact ⟨by simpa using blk_set hb 19 (.int .i64 x), hg⟩
theorem cellS46_20 {W : World} {g : Nat} {f0 : Int} {f1 : Int} {f2 : Int} {f3 : Int} {f4 : Int} {f5 : Int} {f6 : Int} {f7 : Int} {f8 : Int} {f9 : Int} {f10 : Int} {f11 : Int} {f12 : Int} {f13 : Bool} {f14 : Int} {f15 : Int} {f16 : Int} {f17 : Int} {f18 : Int} {f19 : Int} {f20 : Int} (h : W.heap[g]? = some (.cells #[.int .u64 f0, .int .u64 f1, .int .u64 f2, .int .u64 f3, .int .i64 f4, .int .i64 f5, .int .u64 f6, .int .u64 f7, .int .u64 f8, .int .u64 f9, .int .i64 f10, .int .i64 f11, .int .u64 f12, .bool f13, .int .u64 f14, .int .u64 f15, .int .u64 f16, .int .u64 f17, .int .u64 f18, .int .i64 f19, .int .i64 f20] 46 (0, 0))) : W.cell? ⟨g, 20, none⟩ = some (.int .i64 f20) := (blk_cell h 20).trans rfl
theorem IsS46.set_20 {w0 W : World} {g : Nat} {f0 : Int} {f1 : Int} {f2 : Int} {f3 : Int} {f4 : Int} {f5 : Int} {f6 : Int} {f7 : Int} {f8 : Int} {f9 : Int} {f10 : Int} {f11 : Int} {f12 : Int} {f13 : Bool} {f14 : Int} {f15 : Int} {f16 : Int} {f17 : Int} {f18 : Int} {f19 : Int} {f20 : Int} (h : IsS46 w0 W g f0 f1 f2 f3 f4 f5 f6 f7 f8 f9 f10 f11 f12 f13 f14 f15 f16 f17 f18 f19 f20) (x : Int) : IsS46 w0 (W.setCell ⟨g, 20, none⟩ (.int .i64 x)) g f0 f1 f2 f3 f4 f5 f6 f7 f8 f9 f10 f11 f12 f13 f14 f15 f16 f17 f18 f19 x := by
 obtain ⟨hb, hg⟩ := h
 exact ⟨by simpa using blk_set hb 20 (.int .i64 x), hg⟩
theorem IsS46.new (w0 W : World) (f0 : Int) (f1 : Int) (f2 : Int) (f3 : Int) (f4 : Int) (f5 : Int) (f6 : Int) (f7 : Int) (f8 : Int) (f9 : Int) (f10 : Int) (f11 : Int) (f12 : Int) (f13 : Bool) (f14 : Int) (f15 : Int) (f16 : Int) (f17 : Int) (f18 : Int) (f19 : Int) (f20 : Int) (hB : Below w0.heap.size w0 W) : IsS46 w0 (W.alloc (.cells #[.int .u64 f0, .int .u64 f1, .int .u64 f2, .int .u64 f3, .int .i64 f4, .int .i64 f5, .int .u64 f6, .int .u64 f7, .int .u64 f8, .int .u64 f9, .int .i64 f10, .int .i64 f11, .int .u64 f12, .bool f13, .int .u64 f14, .int .u64 f15, .int .u64 f16, .int .u64 f17, .int .u64 f18, .int .i64 f19, .int .i64 f20] 46)) W.heap.size f0 f1 f2 f3 f4 f5 f6 f7 f8 f9 f10 f11 f12 f13 f14 f15 f16 f17 f18 f19 f20 := ⟨by simpa using heap_alloc_new W _, hB.size⟩

/-! ### xfer_row_unsigned: function 61 -/
def xfer_row_unsigned.f (s0_0 : Int) (s0_1 : Int) (s0_2 : Int) (s0_3 : Int) (s0_4 : Int) (s0_5 : Int) (s0_6 : Int) (s0_7 : Int) (s0_8 : Int) (s0_9 : Int) (s0_10 : Int) (s0_11 : Int) (s0_12 : Int) (s0_13 : Bool) (s0_14 : Int) (s0_15 : Int) (s0_16 : Int) (s0_17 : Int) (s0_18 : Int) (s0_19 : Int) (s0_20 : Int) (a1 : Int) (a2 : Int) : Option (Int × Int × Int × Int × Int × Int × Int × Int × Int × Int × Int × Int × Int × Bool × Int × Int × Int × Int × Int × Int × Int) := some (s0_0, s0_1, s0_2, s0_3, s0_4, s0_5, s0_6, s0_7, s0_8, s0_9, s0_10, s0_11, s0_12, s0_13, s0_14, s0_15, s0_16, a1, a2, s0_19, s0_20)
set_option maxHeartbeats 8000000 in
set_option maxRecDepth 100000 in
theorem xfer_row_unsigned.calls (g : Nat) (s0_0 : Int) (s0_1 : Int) (s0_2 : Int) (s0_3 : Int) (s0_4 : Int) (s0_5 : Int) (s0_6 : Int) (s0_7 : Int) (s0_8 : Int) (s0_9 : Int) (s0_10 : Int) (s0_11 : Int) (s0_12 : Int) (s0_13 : Bool) (s0_14 : Int) (s0_15 : Int) (s0_16 : Int) (s0_17 : Int) (s0_18 : Int) (s0_19 : Int) (s0_20 : Int) (a1 : Int) (a2 : Int) (r1 : Int) (r2 : Int) (r3 : Int) (r4 : Int) (r5 : Int) (r6 : Int) (r7 : Int) (r8 : Int) (r9 : Int) (r10 : Int) (r11 : Int) (r12 : Int) (r13 : Int) (r14 : Bool) (r15 : Int) (r16 : Int) (r17 : Int) (r18 : Int) (r19 : Int) (r20 : Int) (r21 : Int) (w0 w : World) (hI : IsS46 w0 w g s0_0 s0_1 s0_2 s0_3 s0_4 s0_5 s0_6 s0_7 s0_8 s0_9 s0_10 s0_11 s0_12 s0_13 s0_14 s0_15 s0_16 s0_17 s0_18 s0_19 s0_20) (hB : Below w0.heap.size w0 w) (h : xfer_row_unsigned.f s0_0 s0_1 s0_2 s0_3 s0_4 s0_5 s0_6 s0_7 s0_8 s0_9 s0_10 s0_11 s0_12 s0_13 s0_14 s0_15 s0_16 s0_17 s0_18 s0_19 s0_20 a1 a2 = some (r1, r2, r3, r4, r5, r6, r7, r8, r9, r10, r11, r12, r13, r14, r15, r16, r17, r18, r19, r20, r21)) :
  Calls Try.prog 61 #[.pointer (some ⟨g, 0, none⟩), .int .u64 a1, .int .u64 a2] w fun e w' => e = .returned (.tuple #[]) ∧ IsS46 w0 w' g r1 r2 r3 r4 r5 r6 r7 r8 r9 r10 r11 r12 r13 r14 r15 r16 r17 r18 r19 r20 r21 ∧ Below w0.heap.size w0 w' ∧ KeepBut w w' g none := by
 have HI0 := Aside0.mk hI
 have HK := Aside0.mk (KeepBut.refl w g none)
 have HL := Aside0.mk hB.size
 clear hI
 have HW0 := Aside0.mk hB.size
 have HB := Aside0.mk hB
 clear hB
 have H : (some (s0_0, s0_1, s0_2, s0_3, s0_4, s0_5, s0_6, s0_7, s0_8, s0_9, s0_10, s0_11, s0_12, s0_13, s0_14, s0_15, s0_16, a1, a2, s0_19, s0_20)) = some (r1, r2, r3, r4, r5, r6, r7, r8, r9, r10, r11, r12, r13, r14, r15, r16, r17, r18, r19, r20, r21) := h
 clear h
 simp only [Option.some.injEq, Prod.mk.injEq] at H
 obtain ⟨rfl, rfl, rfl, rfl, rfl, rfl, rfl, rfl, rfl, rfl, rfl, rfl, rfl, rfl, rfl, rfl, rfl, rfl, rfl, rfl, rfl⟩ := H
 obtain ⟨HGz4, hgz4⟩ := HI0.out
 have hcz4_0 := cellS46_0 HGz4
 have hcz4_1 := cellS46_1 HGz4
 have hcz4_2 := cellS46_2 HGz4
 have hcz4_3 := cellS46_3 HGz4
 have hcz4_4 := cellS46_4 HGz4
 have hcz4_5 := cellS46_5 HGz4
 have hcz4_6 := cellS46_6 HGz4
 have hcz4_7 := cellS46_7 HGz4
 have hcz4_8 := cellS46_8 HGz4
 have hcz4_9 := cellS46_9 HGz4
 have hcz4_10 := cellS46_10 HGz4
 have hcz4_11 := cellS46_11 HGz4
 have hcz4_12 := cellS46_12 HGz4
 have hcz4_13 := cellS46_13 HGz4
 have hcz4_14 := cellS46_14 HGz4
 have hcz4_15 := cellS46_15 HGz4
 have hcz4_16 := cellS46_16 HGz4
 have hcz4_17 := cellS46_17 HGz4
 have hcz4_18 := cellS46_18 HGz4
 have hcz4_19 := cellS46_19 HGz4
 have hcz4_20 := cellS46_20 HGz4
 have hfz4_0 := blk_frozen HGz4 0
 have hfz4_1 := blk_frozen HGz4 1
 have hfz4_2 := blk_frozen HGz4 2
 have hfz4_3 := blk_frozen HGz4 3
 have hfz4_4 := blk_frozen HGz4 4
 have hfz4_5 := blk_frozen HGz4 5
 have hfz4_6 := blk_frozen HGz4 6
 have hfz4_7 := blk_frozen HGz4 7
 have hfz4_8 := blk_frozen HGz4 8
 have hfz4_9 := blk_frozen HGz4 9
 have hfz4_10 := blk_frozen HGz4 10
 have hfz4_11 := blk_frozen HGz4 11
 have hfz4_12 := blk_frozen HGz4 12
 have hfz4_13 := blk_frozen HGz4 13
 have hfz4_14 := blk_frozen HGz4 14
 have hfz4_15 := blk_frozen HGz4 15
 have hfz4_16 := blk_frozen HGz4 16
 have hfz4_17 := blk_frozen HGz4 17
 have hfz4_18 := blk_frozen HGz4 18
 have hfz4_19 := blk_frozen HGz4 19
 have hfz4_20 := blk_frozen HGz4 20
 clear HGz4 hgz4
 go_enter Try.func61, Try.ntmps61
 go_wp2
 first | go_end0 | ((try simp only [Exit.inBlock, Exit.then]); refine bodyPost_ret (results_none rfl _ _ _) rfl ?_)
 exact ⟨by first | rfl | (simp [errW_none, errW_some] <;> rfl) | (simp [*, errW_none, errW_some] <;> rfl), by repeat (first | (with_reducible first | exact HI0.out | apply IsS46.alloc | apply IsS46.drewN | apply IsS46.drew | apply IsS46.set_0 | apply IsS46.set_1 | apply IsS46.set_2 | apply IsS46.set_3 | apply IsS46.set_4 | apply IsS46.set_5 | apply IsS46.set_6 | apply IsS46.set_7 | apply IsS46.set_8 | apply IsS46.set_9 | apply IsS46.set_10 | apply IsS46.set_11 | apply IsS46.set_12 | apply IsS46.set_13 | apply IsS46.set_14 | apply IsS46.set_15 | apply IsS46.set_16 | apply IsS46.set_17 | apply IsS46.set_18 | apply IsS46.set_19 | apply IsS46.set_20) | exact HI0.out), by repeat (first | (with_reducible first | exact HB.out | apply below_alloc | apply pw_below_drewN | apply below_drew1 | refine below_set ?_ (IsS46.ge HI0.out)) | exact HB.out), by repeat (first | (with_reducible first | exact HK.out | apply KeepBut.set_ | apply keep_drewN | apply keep_drew | apply keep_alloc) | exact HK.out)⟩

/-! ### xfer_sum: function 62 -/
def xfer_sum.f (a0 : Int) (a1 : Int) : Option (Int × Bool) := some (wrap64 (a0 + a1), ((decide ((wrap64 (a0 + a1)) < a0)) == (decide (a1 < 0))))
set_option maxHeartbeats 8000000 in
set_option maxRecDepth 100000 in
theorem xfer_sum.calls (a0 : Int) (a1 : Int) (r1 : Int) (r2 : Bool) (w : World) (h : xfer_sum.f a0 a1 = some (r1, r2)) :
  Calls Try.prog 62 #[.int .i64 a0, .int .i64 a1] w fun e w' => e = .returned (.tuple #[.int .i64 r1, .bool r2]) ∧ Drawn0 w w' := by
 have H : (some (wrap64 (a0 + a1), ((decide ((wrap64 (a0 + a1)) < a0)) == (decide (a1 < 0))))) = some (r1, r2) := h
 clear h
 simp only [Option.some.injEq, Prod.mk.injEq] at H
 obtain ⟨rfl, rfl⟩ := H
 go_enter Try.func62, Try.ntmps62
 go_wp2
 go_ret2
 exact ⟨by first | rfl | (simp; done) | (simp [*]; done), by repeat (first | exact Drawn0.refl _ | apply Drawn0.step)⟩

/-! ### xfer_row_signed: function 63 -/
def xfer_row_signed.f (s0_0 : Int) (s0_1 : Int) (s0_2 : Int) (s0_3 : Int) (s0_4 : Int) (s0_5 : Int) (s0_6 : Int) (s0_7 : Int) (s0_8 : Int) (s0_9 : Int) (s0_10 : Int) (s0_11 : Int) (s0_12 : Int) (s0_13 : Bool) (s0_14 : Int) (s0_15 : Int) (s0_16 : Int) (s0_17 : Int) (s0_18 : Int) (s0_19 : Int) (s0_20 : Int) (a1 : Int) (a2 : Int) : Option (Int × Int × Int × Int × Int × Int × Int × Int × Int × Int × Int × Int × Int × Bool × Int × Int × Int × Int × Int × Int × Int) := some (s0_0, s0_1, s0_2, s0_3, s0_4, s0_5, s0_6, s0_7, s0_8, s0_9, s0_10, s0_11, s0_12, s0_13, s0_14, s0_15, s0_16, s0_17, s0_18, a1, a2)
set_option maxHeartbeats 8000000 in
set_option maxRecDepth 100000 in
theorem xfer_row_signed.calls (g : Nat) (s0_0 : Int) (s0_1 : Int) (s0_2 : Int) (s0_3 : Int) (s0_4 : Int) (s0_5 : Int) (s0_6 : Int) (s0_7 : Int) (s0_8 : Int) (s0_9 : Int) (s0_10 : Int) (s0_11 : Int) (s0_12 : Int) (s0_13 : Bool) (s0_14 : Int) (s0_15 : Int) (s0_16 : Int) (s0_17 : Int) (s0_18 : Int) (s0_19 : Int) (s0_20 : Int) (a1 : Int) (a2 : Int) (r1 : Int) (r2 : Int) (r3 : Int) (r4 : Int) (r5 : Int) (r6 : Int) (r7 : Int) (r8 : Int) (r9 : Int) (r10 : Int) (r11 : Int) (r12 : Int) (r13 : Int) (r14 : Bool) (r15 : Int) (r16 : Int) (r17 : Int) (r18 : Int) (r19 : Int) (r20 : Int) (r21 : Int) (w0 w : World) (hI : IsS46 w0 w g s0_0 s0_1 s0_2 s0_3 s0_4 s0_5 s0_6 s0_7 s0_8 s0_9 s0_10 s0_11 s0_12 s0_13 s0_14 s0_15 s0_16 s0_17 s0_18 s0_19 s0_20) (hB : Below w0.heap.size w0 w) (h : xfer_row_signed.f s0_0 s0_1 s0_2 s0_3 s0_4 s0_5 s0_6 s0_7 s0_8 s0_9 s0_10 s0_11 s0_12 s0_13 s0_14 s0_15 s0_16 s0_17 s0_18 s0_19 s0_20 a1 a2 = some (r1, r2, r3, r4, r5, r6, r7, r8, r9, r10, r11, r12, r13, r14, r15, r16, r17, r18, r19, r20, r21)) :
  Calls Try.prog 63 #[.pointer (some ⟨g, 0, none⟩), .int .i64 a1, .int .i64 a2] w fun e w' => e = .returned (.tuple #[]) ∧ IsS46 w0 w' g r1 r2 r3 r4 r5 r6 r7 r8 r9 r10 r11 r12 r13 r14 r15 r16 r17 r18 r19 r20 r21 ∧ Below w0.heap.size w0 w' ∧ KeepBut w w' g none := by
 have HI0 := Aside0.mk hI
 have HK := Aside0.mk (KeepBut.refl w g none)
 have HL := Aside0.mk hB.size
 clear hI
 have HW0 := Aside0.mk hB.size
 have HB := Aside0.mk hB
 clear hB
 have H : (some (s0_0, s0_1, s0_2, s0_3, s0_4, s0_5, s0_6, s0_7, s0_8, s0_9, s0_10, s0_11, s0_12, s0_13, s0_14, s0_15, s0_16, s0_17, s0_18, a1, a2)) = some (r1, r2, r3, r4, r5, r6, r7, r8, r9, r10, r11, r12, r13, r14, r15, r16, r17, r18, r19, r20, r21) := h
 clear h
 simp only [Option.some.injEq, Prod.mk.injEq] at H
 obtain ⟨rfl, rfl, rfl, rfl, rfl, rfl, rfl, rfl, rfl, rfl, rfl, rfl, rfl, rfl, rfl, rfl, rfl, rfl, rfl, rfl, rfl⟩ := H
 obtain ⟨HGz4, hgz4⟩ := HI0.out
 have hcz4_0 := cellS46_0 HGz4
 have hcz4_1 := cellS46_1 HGz4
 have hcz4_2 := cellS46_2 HGz4
 have hcz4_3 := cellS46_3 HGz4
 have hcz4_4 := cellS46_4 HGz4
 have hcz4_5 := cellS46_5 HGz4
 have hcz4_6 := cellS46_6 HGz4
 have hcz4_7 := cellS46_7 HGz4
 have hcz4_8 := cellS46_8 HGz4
 have hcz4_9 := cellS46_9 HGz4
 have hcz4_10 := cellS46_10 HGz4
 have hcz4_11 := cellS46_11 HGz4
 have hcz4_12 := cellS46_12 HGz4
 have hcz4_13 := cellS46_13 HGz4
 have hcz4_14 := cellS46_14 HGz4
 have hcz4_15 := cellS46_15 HGz4
 have hcz4_16 := cellS46_16 HGz4
 have hcz4_17 := cellS46_17 HGz4
 have hcz4_18 := cellS46_18 HGz4
 have hcz4_19 := cellS46_19 HGz4
 have hcz4_20 := cellS46_20 HGz4
 have hfz4_0 := blk_frozen HGz4 0
 have hfz4_1 := blk_frozen HGz4 1
 have hfz4_2 := blk_frozen HGz4 2
 have hfz4_3 := blk_frozen HGz4 3
 have hfz4_4 := blk_frozen HGz4 4
 have hfz4_5 := blk_frozen HGz4 5
 have hfz4_6 := blk_frozen HGz4 6
 have hfz4_7 := blk_frozen HGz4 7
 have hfz4_8 := blk_frozen HGz4 8
 have hfz4_9 := blk_frozen HGz4 9
 have hfz4_10 := blk_frozen HGz4 10
 have hfz4_11 := blk_frozen HGz4 11
 have hfz4_12 := blk_frozen HGz4 12
 have hfz4_13 := blk_frozen HGz4 13
 have hfz4_14 := blk_frozen HGz4 14
 have hfz4_15 := blk_frozen HGz4 15
 have hfz4_16 := blk_frozen HGz4 16
 have hfz4_17 := blk_frozen HGz4 17
 have hfz4_18 := blk_frozen HGz4 18
 have hfz4_19 := blk_frozen HGz4 19
 have hfz4_20 := blk_frozen HGz4 20
 clear HGz4 hgz4
 go_enter Try.func63, Try.ntmps63
 go_wp2
 first | go_end0 | ((try simp only [Exit.inBlock, Exit.then]); refine bodyPost_ret (results_none rfl _ _ _) rfl ?_)
 exact ⟨by first | rfl | (simp [errW_none, errW_some] <;> rfl) | (simp [*, errW_none, errW_some] <;> rfl), by repeat (first | (with_reducible first | exact HI0.out | apply IsS46.alloc | apply IsS46.drewN | apply IsS46.drew | apply IsS46.set_0 | apply IsS46.set_1 | apply IsS46.set_2 | apply IsS46.set_3 | apply IsS46.set_4 | apply IsS46.set_5 | apply IsS46.set_6 | apply IsS46.set_7 | apply IsS46.set_8 | apply IsS46.set_9 | apply IsS46.set_10 | apply IsS46.set_11 | apply IsS46.set_12 | apply IsS46.set_13 | apply IsS46.set_14 | apply IsS46.set_15 | apply IsS46.set_16 | apply IsS46.set_17 | apply IsS46.set_18 | apply IsS46.set_19 | apply IsS46.set_20) | exact HI0.out), by repeat (first | (with_reducible first | exact HB.out | apply below_alloc | apply pw_below_drewN | apply below_drew1 | refine below_set ?_ (IsS46.ge HI0.out)) | exact HB.out), by repeat (first | (with_reducible first | exact HK.out | apply KeepBut.set_ | apply keep_drewN | apply keep_drew | apply keep_alloc) | exact HK.out)⟩

end Go.Proofs.Ytkgmdcibjjkhlaa.PXferSound
