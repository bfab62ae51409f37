/- Functions of the program that some laws reach, as Lean functions, and proofs that the program's calls come to what they say: written by a program, for the texts that import it; each theorem bears its own conditions. -/
import Derived.Test.YtdojdjafleaedaaPNumRefinesx0
import Derived.Test.YtdojdjafleaedaaPNumRefinesx2
namespace Go.Proofs.Ytdojdjafleaedaa.PNumRefines
open Go.RowKit Go.Proofs.YtdojdjafleaedaaW.PrintWords Go.Proofs.YtdojdjafleaedaaW.PrintLast Go.Proofs.YtdojdjafleaedaaW.PrintMore
attribute [local go_sem] max2_int min2_int max_two min_two max_three min_three max_four min_four   -- for this text's walks alone
set_option linter.unusedVariables false
set_option linter.unusedSimpArgs false

/-! ### num_Refine: function 19 -/
/-- What is told where nothing is had. -/
def num_none : Option (Int × Int × Int × Int × Int × Int × Bool) := (num_All.f).bind fun z => some (z.1, z.2.1, z.2.2.1, z.2.2.2.1, z.2.2.2.2.1, z.2.2.2.2.2, false)
def num_Refine.l0 : Nat → Int → Int → Int → Int → Int → Int → Int → Option (Int × Int × Int × Int × Int × Int × Bool)
  | 0, _, _, _, _, _, _, _ => none
  | k + 1, i, s0, s1, s2, s3, s4, s5 => if i < 2 then (num_known_round.f s0 s1 s2 s3 s4 s5).bind fun t => (if t.1 = true then num_Refine.l0 k (wrap64 (i + 1)) t.2.1 t.2.2.1 t.2.2.2.1 t.2.2.2.2.1 t.2.2.2.2.2.1 t.2.2.2.2.2.2 else num_none) else some (s0, s1, s2, s3, s4, s5, true)
def num_Refine.f (a0_0 : Int) (a0_1 : Int) (a0_2 : Int) (a0_3 : Int) (a0_4 : Int) (a0_5 : Int) : Option (Int × Int × Int × Int × Int × Int × Bool) := num_Refine.l0 3 0 a0_0 a0_1 a0_2 a0_3 a0_4 a0_5
set_option maxHeartbeats 8000000 in
set_option maxRecDepth 100000 in
theorem num_Refine.calls (a0_0 : Int) (a0_1 : Int) (a0_2 : Int) (a0_3 : Int) (a0_4 : Int) (a0_5 : Int) (r1 : Int) (r2 : Int) (r3 : Int) (r4 : Int) (r5 : Int) (r6 : Int) (r7 : Bool) (w : World) (h : num_Refine.f a0_0 a0_1 a0_2 a0_3 a0_4 a0_5 = some (r1, r2, r3, r4, r5, r6, r7)) :
    Calls Try.prog 19 #[.agg #[.int .u64 a0_0, .int .u64 a0_1, .int .u64 a0_2, .int .u64 a0_3, .int .i64 a0_4, .int .i64 a0_5]] w fun e w' => e = .returned (.tuple #[.agg #[.int .u64 r1, .int .u64 r2, .int .u64 r3, .int .u64 r4, .int .i64 r5, .int .i64 r6], .bool r7]) ∧ Below w.heap.size w w' := by
  have hu36 := Try.underlying36
  have hu66 := Try.underlying66
  have H' : Aside0 (num_Refine.l0 3 0 a0_0 a0_1 a0_2 a0_3 a0_4 a0_5 = some (r1, r2, r3, r4, r5, r6, r7)) := ⟨h⟩
  clear h
  go_enter Try.func19, Try.ntmps19
  go_wp2_with (first | ((with_reducible refine gate_dst (N := 1) rfl ?_); refine box_event ?hg (N := 1) ?hd (cs := #[.int .u64 a0_0, .int .u64 a0_1, .int .u64 a0_2, .int .u64 a0_3, .int .i64 a0_4, .int .i64 a0_5]) (t := 36) ?hr ?_; (case hd => rfl); (case hg => rfl); (case hr => first | (go_simp; done) | (go_simp; rfl)); intro g1 hg1_ w1 hx1 hb1; have hg1 := Aside0.mk hg1_; clear hg1_) | ((with_reducible refine gate_dst (N := 2) rfl ?_); refine box_event ?hg (N := 2) ?hd (cs := #[.int .u64 0, .int .u64 0, .int .u64 0, .int .u64 0, .int .i64 0, .int .i64 0]) (t := 36) ?hr ?_; (case hd => rfl); (case hg => rfl); (case hr => first | (go_simp; done) | (go_simp; rfl)); intro g2 hg2_ w2 hx2 hb2; have hg2 := Aside0.mk hg2_; clear hg2_; have hx1' := blk_below hx1 hb2; have hxc0 : w2.cell? ⟨g1, 0, none⟩ = some (.int .u64 a0_0) := (blk_cell hx1' 0).trans rfl; have hxc1 : w2.cell? ⟨g1, 1, none⟩ = some (.int .u64 a0_1) := (blk_cell hx1' 1).trans rfl; have hxc2 : w2.cell? ⟨g1, 2, none⟩ = some (.int .u64 a0_2) := (blk_cell hx1' 2).trans rfl; have hxc3 : w2.cell? ⟨g1, 3, none⟩ = some (.int .u64 a0_3) := (blk_cell hx1' 3).trans rfl; have hxc4 : w2.cell? ⟨g1, 4, none⟩ = some (.int .i64 a0_4) := (blk_cell hx1' 4).trans rfl; have hxc5 : w2.cell? ⟨g1, 5, none⟩ = some (.int .i64 a0_5) := (blk_cell hx1' 5).trans rfl) | ((with_reducible refine gate_dst (N := 7) rfl ?_); refine box_event ?hg (N := 7) ?hd (cs := #[.int .u64 a0_0, .int .u64 a0_1, .int .u64 a0_2, .int .u64 a0_3, .int .i64 a0_4, .int .i64 a0_5]) (t := 66) ?hr ?_; (case hd => rfl); (case hg => rfl); (case hr => first | (go_simp; done) | (go_simp; rfl)); intro g3 hg3_ w3 hx3 hb3; have hg3 := Aside0.mk hg3_; clear hg3_; have hx2' := blk_below hx2 hb3))
  have HB2 := below_step hb1 hb2
  have HB := Aside0.mk (below_step HB2 hb3)
  have HI : Aside0 (IsS66 w w3 g3 a0_0 a0_1 a0_2 a0_3 a0_4 a0_5) := ⟨⟨hx3, by rw [hg3.out]; exact HB2.size⟩⟩
  have HG2 : Aside0 (w.heap.size ≤ g2 ∧ g2 ≠ g3) := ⟨by rw [hg2.out]; exact hb1.size, by rw [hg3.out]; exact Nat.ne_of_lt (blk_lt hx2)⟩
  have BK2 := Aside0.mk hx2'
  clear hb1 hb2 hb3 HB2 hx1 hx2 hx3 hx1' hx2' hg1 hg2 hg3 hxc0 hxc1 hxc2 hxc3 hxc4 hxc5
  go_loopg [8] 3 (fun kq v8 w' => ∃ (i : Int) (s0 : Int) (s1 : Int) (s2 : Int) (s3 : Int) (s4 : Int) (s5 : Int), v8 = .int .i64 i ∧ Aside0 (num_Refine.l0 kq i s0 s1 s2 s3 s4 s5 = some (r1, r2, r3, r4, r5, r6, r7)) ∧ Aside0 (kq ≤ 3) ∧ Aside0 (w'.heap[g2]? = some (.cells #[.int .u64 0, .int .u64 0, .int .u64 0, .int .u64 0, .int .i64 0, .int .i64 0] 36 (0, 0))) ∧ Aside0 (IsS66 w w' g3 s0 s1 s2 s3 s4 s5) ∧ Aside0 (Below w.heap.size w w'))
  case atStart => exact ⟨0, a0_0, a0_1, a0_2, a0_3, a0_4, a0_5, rfl, H', ⟨Nat.le_refl _⟩, BK2, HI, HB⟩
  case round =>
    clear H' BK2 HI HB
    obtain ⟨i, s0, s1, s2, s3, s4, s5, rfl, HA, HK1, BK2, HI, HB⟩ := hrel
    cases gk with
    | zero => exact absurd HA.out (by simp [num_Refine.l0])
    | succ k1 =>
      have H := HA.out
      clear HA
      rw [num_Refine.l0] at H
      obtain ⟨c0, c1, c2, c3, c4, c5⟩ := num_cells HI.out
      have z := BK2.out
      by_cases c : i < 2
      · rw [if_pos c] at H
        have cb : decide (i < 2) = true := decide_eq_true c
        obtain ⟨⟨t1, t2, t3, t4, t5, t6, t7⟩, hr, H⟩ := Option.bind_eq_some_iff.mp H
        have H := Aside0.mk H
        have HR := Aside0.mk hr
        clear hr c
        go_wp2_with fail
        with_reducible refine (num_known_round.calls g3 _ _ _ _ _ _ t1 t2 t3 t4 t5 t6 t7 w _ HI.out HB.out HR.out).mono ?_
        rintro e w4 ⟨rfl, hI, hB, hK⟩
        have z4 : w4.heap[g2]? = some (.cells #[.int .u64 0, .int .u64 0, .int .u64 0, .int .u64 0, .int .i64 0, .int .i64 0] 36 (0, 0)) := (hK.2 g2 (blk_lt z) HG2.out.2 (by simp)).trans z
        clear z BK2 HI HB hK c0 c1 c2 c3 c4 c5
        cases t1 with
        | true =>
          have H' := Aside0.mk (show num_Refine.l0 k1 (wrap64 (i + 1)) t2 t3 t4 t5 t6 t7 = some (r1, r2, r3, r4, r5, r6, r7) from (if_pos rfl).symm.trans H.out)
          go_wp2
          go_roundg k1
          case measure => have := HK1.out; omega
          case rel => exact ⟨wrap64 (i + 1), t2, t3, t4, t5, t6, t7, rfl, H', ⟨by have := HK1.out; omega⟩, ⟨z4⟩, ⟨hI⟩, ⟨hB⟩⟩
        | false =>
          have H2 : num_none = some (r1, r2, r3, r4, r5, r6, r7) := (if_neg (by decide)).symm.trans H.out
          unfold num_none at H2
          obtain ⟨⟨z1, z2, z3, z4', z5, z6⟩, hA, H2⟩ := Option.bind_eq_some_iff.mp H2
          simp only [Option.some.injEq, Prod.mk.injEq] at H2
          obtain ⟨rfl, rfl, rfl, rfl, rfl, rfl, rfl⟩ := H2
          have HA := Aside0.mk hA
          clear hA H
          go_wp2_with fail
          with_reducible refine (num_All.calls _ _ _ _ _ _ _ HA.out).mono ?_
          rintro e w5 ⟨rfl, hb5⟩
          have z5w := blk_below z4 hb5
          have hzc0 : w5.cell? ⟨g2, 0, none⟩ = some (.int .u64 0) := (blk_cell z5w 0).trans rfl; have hzf0 := blk_frozen z5w 0; have hzc1 : w5.cell? ⟨g2, 1, none⟩ = some (.int .u64 0) := (blk_cell z5w 1).trans rfl; have hzf1 := blk_frozen z5w 1; have hzc2 : w5.cell? ⟨g2, 2, none⟩ = some (.int .u64 0) := (blk_cell z5w 2).trans rfl; have hzf2 := blk_frozen z5w 2; have hzc3 : w5.cell? ⟨g2, 3, none⟩ = some (.int .u64 0) := (blk_cell z5w 3).trans rfl; have hzf3 := blk_frozen z5w 3; have hzc4 : w5.cell? ⟨g2, 4, none⟩ = some (.int .i64 0) := (blk_cell z5w 4).trans rfl; have hzf4 := blk_frozen z5w 4; have hzc5 : w5.cell? ⟨g2, 5, none⟩ = some (.int .i64 0) := (blk_cell z5w 5).trans rfl; have hzf5 := blk_frozen z5w 5
          have HB5 := below_step hB hb5
          clear z4 hI hB hb5
          go_wp2
          refine bodyPost_ret (results_ct rfl _ _ g2 36 #[.int .u64 z1, .int .u64 z2, .int .u64 z3, .int .u64 z4', .int .i64 z5, .int .i64 z6] (0, 0) _ rfl (by (with_reducible repeat (first | refine blk_drewN ?_ _ | refine blk_drew ?_ | refine blk_alloc ?_ _)); refine blk_put (cs := #[.int .u64 z1, .int .u64 z2, .int .u64 z3, .int .u64 z4', .int .i64 z5, .int .i64 0]) ?_ 5 _ rfl; refine blk_put (cs := #[.int .u64 z1, .int .u64 z2, .int .u64 z3, .int .u64 z4', .int .i64 0, .int .i64 0]) ?_ 4 _ rfl; refine blk_put (cs := #[.int .u64 z1, .int .u64 z2, .int .u64 z3, .int .u64 0, .int .i64 0, .int .i64 0]) ?_ 3 _ rfl; refine blk_put (cs := #[.int .u64 z1, .int .u64 z2, .int .u64 0, .int .u64 0, .int .i64 0, .int .i64 0]) ?_ 2 _ rfl; refine blk_put (cs := #[.int .u64 z1, .int .u64 0, .int .u64 0, .int .u64 0, .int .i64 0, .int .i64 0]) ?_ 1 _ rfl; refine blk_put (cs := #[.int .u64 0, .int .u64 0, .int .u64 0, .int .u64 0, .int .i64 0, .int .i64 0]) ?_ 0 _ rfl; (with_reducible repeat (first | refine blk_drewN ?_ _ | refine blk_drew ?_ | refine blk_alloc ?_ _)); exact z5w) Try.underlying36 rfl (by kernel_rfl)) rfl ?_
          exact ⟨rfl, by repeat (first | exact HB5 | refine below_set ?_ HG2.out.1)⟩
      · rw [if_neg c] at H
        have cb : decide (i < 2) = false := decide_eq_false c
        simp only [Option.some.injEq, Prod.mk.injEq] at H
        obtain ⟨rfl, rfl, rfl, rfl, rfl, rfl, rfl⟩ := H
        have hzc0 : World.cell? _ ⟨g2, 0, none⟩ = some (.int .u64 0) := (blk_cell z 0).trans rfl; have hzf0 := blk_frozen z 0; have hzc1 : World.cell? _ ⟨g2, 1, none⟩ = some (.int .u64 0) := (blk_cell z 1).trans rfl; have hzf1 := blk_frozen z 1; have hzc2 : World.cell? _ ⟨g2, 2, none⟩ = some (.int .u64 0) := (blk_cell z 2).trans rfl; have hzf2 := blk_frozen z 2; have hzc3 : World.cell? _ ⟨g2, 3, none⟩ = some (.int .u64 0) := (blk_cell z 3).trans rfl; have hzf3 := blk_frozen z 3; have hzc4 : World.cell? _ ⟨g2, 4, none⟩ = some (.int .i64 0) := (blk_cell z 4).trans rfl; have hzf4 := blk_frozen z 4; have hzc5 : World.cell? _ ⟨g2, 5, none⟩ = some (.int .i64 0) := (blk_cell z 5).trans rfl; have hzf5 := blk_frozen z 5
        have hne1 := HG2.out.2
        have hne2 := HG2.out.2.symm
        go_wp2
        refine bodyPost_ret (results_ct rfl _ _ g2 36 #[.int .u64 s0, .int .u64 s1, .int .u64 s2, .int .u64 s3, .int .i64 s4, .int .i64 s5] (0, 0) _ rfl (by (with_reducible repeat (first | refine blk_drewN ?_ _ | refine blk_drew ?_ | refine blk_alloc ?_ _)); refine blk_put (cs := #[.int .u64 s0, .int .u64 s1, .int .u64 s2, .int .u64 s3, .int .i64 s4, .int .i64 0]) ?_ 5 _ rfl; refine blk_put (cs := #[.int .u64 s0, .int .u64 s1, .int .u64 s2, .int .u64 s3, .int .i64 0, .int .i64 0]) ?_ 4 _ rfl; refine blk_put (cs := #[.int .u64 s0, .int .u64 s1, .int .u64 s2, .int .u64 0, .int .i64 0, .int .i64 0]) ?_ 3 _ rfl; refine blk_put (cs := #[.int .u64 s0, .int .u64 s1, .int .u64 0, .int .u64 0, .int .i64 0, .int .i64 0]) ?_ 2 _ rfl; refine blk_put (cs := #[.int .u64 s0, .int .u64 0, .int .u64 0, .int .u64 0, .int .i64 0, .int .i64 0]) ?_ 1 _ rfl; refine blk_put (cs := #[.int .u64 0, .int .u64 0, .int .u64 0, .int .u64 0, .int .i64 0, .int .i64 0]) ?_ 0 _ rfl; (with_reducible repeat (first | refine blk_drewN ?_ _ | refine blk_drew ?_ | refine blk_alloc ?_ _)); exact z) Try.underlying36 rfl (by kernel_rfl)) rfl ?_
        exact ⟨rfl, by repeat (first | exact HB.out | refine below_set ?_ HG2.out.1)⟩

/-! ### num_Meet: function 21 -/
def num_Meet.f (a0_0 : Int) (a0_1 : Int) (a0_2 : Int) (a0_3 : Int) (a0_4 : Int) (a0_5 : Int) (a1_0 : Int) (a1_1 : Int) (a1_2 : Int) (a1_3 : Int) (a1_4 : Int) (a1_5 : Int) : Option (Int × Int × Int × Int × Int × Int × Bool) := (tnum_Meet.f a0_0 a0_1 a1_0 a1_1).bind fun t => if t.2.2 = true then num_Refine.f t.1 t.2.1 (mx a0_2 a1_2) (mn a0_3 a1_3) (mx a0_4 a1_4) (mn a0_5 a1_5) else num_none
set_option maxHeartbeats 8000000 in
set_option maxRecDepth 100000 in
theorem num_Meet.calls (a0_0 : Int) (a0_1 : Int) (a0_2 : Int) (a0_3 : Int) (a0_4 : Int) (a0_5 : Int) (a1_0 : Int) (a1_1 : Int) (a1_2 : Int) (a1_3 : Int) (a1_4 : Int) (a1_5 : Int) (r1 : Int) (r2 : Int) (r3 : Int) (r4 : Int) (r5 : Int) (r6 : Int) (r7 : Bool) (w : World) (h : num_Meet.f a0_0 a0_1 a0_2 a0_3 a0_4 a0_5 a1_0 a1_1 a1_2 a1_3 a1_4 a1_5 = some (r1, r2, r3, r4, r5, r6, r7)) :
    Calls Try.prog 21 #[.agg #[.int .u64 a0_0, .int .u64 a0_1, .int .u64 a0_2, .int .u64 a0_3, .int .i64 a0_4, .int .i64 a0_5], .agg #[.int .u64 a1_0, .int .u64 a1_1, .int .u64 a1_2, .int .u64 a1_3, .int .i64 a1_4, .int .i64 a1_5]] w fun e w' => e = .returned (.tuple #[.agg #[.int .u64 r1, .int .u64 r2, .int .u64 r3, .int .u64 r4, .int .i64 r5, .int .i64 r6], .bool r7]) ∧ Below w.heap.size w w' := by
  have hu36 := Try.underlying36
  have hu66 := Try.underlying66
  have hu34 := Try.underlying34
  unfold num_Meet.f at h
  obtain ⟨⟨u1, u2, u3⟩, hm, h⟩ := Option.bind_eq_some_iff.mp h
  have HM := Aside0.mk hm
  have H := Aside0.mk h
  clear h hm
  go_enter Try.func21, Try.ntmps21
  go_wp2_with (first | ((with_reducible refine gate_dst (N := 2) rfl ?_); refine box_event ?hg (N := 2) ?hd (cs := #[.int .u64 a0_0, .int .u64 a0_1, .int .u64 a0_2, .int .u64 a0_3, .int .i64 a0_4, .int .i64 a0_5]) (t := 36) ?hr ?_; (case hd => rfl); (case hg => rfl); (case hr => first | (go_simp; done) | (go_simp; rfl)); intro g2 hg_ w2 x2 hb2; have Eg2 := Aside0.mk hg_; clear hg_) | ((with_reducible refine gate_dst (N := 3) rfl ?_); refine box_event ?hg (N := 3) ?hd (cs := #[.int .u64 a1_0, .int .u64 a1_1, .int .u64 a1_2, .int .u64 a1_3, .int .i64 a1_4, .int .i64 a1_5]) (t := 36) ?hr ?_; (case hd => rfl); (case hg => rfl); (case hr => first | (go_simp; done) | (go_simp; rfl)); intro g3 hg_ w3 x3 hb3; have Eg3 := Aside0.mk hg_; clear hg_; have g2lt : g2 < g3 := (by rw [Eg3.out]; exact blk_lt x2); replace x2 := blk_below x2 hb3; replace hb3 := below_step hb2 hb3) | ((with_reducible refine gate_dst (N := 4) rfl ?_); refine box_event ?hg (N := 4) ?hd (cs := #[.int .u64 0, .int .u64 0, .int .u64 0, .int .u64 0, .int .i64 0, .int .i64 0]) (t := 36) ?hr ?_; (case hd => rfl); (case hg => rfl); (case hr => first | (go_simp; done) | (go_simp; rfl)); intro g4 hg_ w4 x4 hb4; have Eg4 := Aside0.mk hg_; clear hg_; have g3lt : g3 < g4 := (by rw [Eg4.out]; exact blk_lt x3); replace x2 := blk_below x2 hb4; replace x3 := blk_below x3 hb4; replace hb4 := below_step hb3 hb4; have pc0 : World.cell? w4 ⟨g2, 0, none⟩ = some (.int .u64 a0_0) := (blk_cell x2 0).trans rfl; have pc1 : World.cell? w4 ⟨g2, 1, none⟩ = some (.int .u64 a0_1) := (blk_cell x2 1).trans rfl; have pc2 : World.cell? w4 ⟨g2, 2, none⟩ = some (.int .u64 a0_2) := (blk_cell x2 2).trans rfl; have pc3 : World.cell? w4 ⟨g2, 3, none⟩ = some (.int .u64 a0_3) := (blk_cell x2 3).trans rfl; have pc4 : World.cell? w4 ⟨g2, 4, none⟩ = some (.int .i64 a0_4) := (blk_cell x2 4).trans rfl; have pc5 : World.cell? w4 ⟨g2, 5, none⟩ = some (.int .i64 a0_5) := (blk_cell x2 5).trans rfl) | ((with_reducible refine gate_dst (N := 11) rfl ?_); refine box_event ?hg (N := 11) ?hd (cs := #[.int .u64 a0_0, .int .u64 a0_1, .int .u64 a0_2, .int .u64 a0_3, .int .i64 a0_4, .int .i64 a0_5]) (t := 66) ?hr ?_; (case hd => rfl); (case hg => rfl); (case hr => first | (go_simp; done) | (go_simp; rfl)); intro g11 hg_ w11 x11 hb11; have Eg11 := Aside0.mk hg_; clear hg_; have g4lt : g4 < g11 := (by rw [Eg11.out]; exact blk_lt x4); replace x2 := blk_below x2 hb11; replace x3 := blk_below x3 hb11; replace x4 := blk_below x4 hb11; replace hb11 := below_step hb4 hb11; have qc0 : World.cell? w11 ⟨g3, 0, none⟩ = some (.int .u64 a1_0) := (blk_cell x3 0).trans rfl; have qc1 : World.cell? w11 ⟨g3, 1, none⟩ = some (.int .u64 a1_1) := (blk_cell x3 1).trans rfl; have qc2 : World.cell? w11 ⟨g3, 2, none⟩ = some (.int .u64 a1_2) := (blk_cell x3 2).trans rfl; have qc3 : World.cell? w11 ⟨g3, 3, none⟩ = some (.int .u64 a1_3) := (blk_cell x3 3).trans rfl; have qc4 : World.cell? w11 ⟨g3, 4, none⟩ = some (.int .i64 a1_4) := (blk_cell x3 4).trans rfl; have qc5 : World.cell? w11 ⟨g3, 5, none⟩ = some (.int .i64 a1_5) := (blk_cell x3 5).trans rfl))
  have HI : Aside0 (IsS66 w w11 g11 a0_0 a0_1 a0_2 a0_3 a0_4 a0_5) := ⟨⟨x11, by rw [Eg11.out]; exact hb4.size⟩⟩
  have HN : Aside0 (g2 ≠ g11 ∧ g3 ≠ g11 ∧ g4 ≠ g11 ∧ g2 ≠ g4 ∧ g3 ≠ g4 ∧ w.heap.size ≤ g4) := ⟨by omega, by omega, by omega, by omega, by omega, by rw [Eg4.out]; exact hb3.size⟩
  have BK2 := Aside0.mk x2
  have BK3 := Aside0.mk x3
  have BK4 := Aside0.mk x4
  have HB := Aside0.mk hb11
  clear hb2 hb3 hb4 hb11 x2 x3 x4 x11 g2lt g3lt g4lt Eg2 Eg3 Eg4 Eg11 pc0 pc1 pc2 pc3 pc4 pc5
  with_reducible refine (num_known_unsigned.calls g11 _ _ _ _ _ _ _ _ _ _ _ _ _ _ w _ HI.out HB.out rfl).mono ?_
  rintro e w12 ⟨rfl, hI, hB, hK⟩
  have y2 := (hK.2 g2 (blk_lt BK2.out) HN.out.1 (by simp)).trans BK2.out
  have y3 := (hK.2 g3 (blk_lt BK3.out) HN.out.2.1 (by simp)).trans BK3.out
  have y4 := (hK.2 g4 (blk_lt BK4.out) HN.out.2.2.1 (by simp)).trans BK4.out
  clear BK2 BK3 BK4 HI HB hK qc0 qc1 qc2 qc3 qc4 qc5
  have BK2 := Aside0.mk y2
  have BK3 := Aside0.mk y3
  have BK4 := Aside0.mk y4
  have HI := Aside0.mk hI
  have HB := Aside0.mk hB
  clear y2 y3 y4 hI hB
  have qc0 : World.cell? w12 ⟨g3, 0, none⟩ = some (.int .u64 a1_0) := (blk_cell BK3.out 0).trans rfl
  have qc1 : World.cell? w12 ⟨g3, 1, none⟩ = some (.int .u64 a1_1) := (blk_cell BK3.out 1).trans rfl
  have qc2 : World.cell? w12 ⟨g3, 2, none⟩ = some (.int .u64 a1_2) := (blk_cell BK3.out 2).trans rfl
  have qc3 : World.cell? w12 ⟨g3, 3, none⟩ = some (.int .u64 a1_3) := (blk_cell BK3.out 3).trans rfl
  have qc4 : World.cell? w12 ⟨g3, 4, none⟩ = some (.int .i64 a1_4) := (blk_cell BK3.out 4).trans rfl
  have qc5 : World.cell? w12 ⟨g3, 5, none⟩ = some (.int .i64 a1_5) := (blk_cell BK3.out 5).trans rfl
  go_wp2_with fail
  with_reducible refine (num_known_signed.calls g11 _ _ _ _ _ _ _ _ _ _ _ _ _ _ w _ HI.out HB.out rfl).mono ?_
  rintro e w13 ⟨rfl, hI, hB, hK⟩
  have y2 := (hK.2 g2 (blk_lt BK2.out) HN.out.1 (by simp)).trans BK2.out
  have y3 := (hK.2 g3 (blk_lt BK3.out) HN.out.2.1 (by simp)).trans BK3.out
  have y4 := (hK.2 g4 (blk_lt BK4.out) HN.out.2.2.1 (by simp)).trans BK4.out
  clear BK2 BK3 BK4 HI HB hK qc0 qc1 qc2 qc3 qc4 qc5
  have BK2 := Aside0.mk y2
  have BK3 := Aside0.mk y3
  have BK4 := Aside0.mk y4
  have HI := Aside0.mk hI
  have HB := Aside0.mk hB
  clear y2 y3 y4 hI hB
  have pc0 : World.cell? w13 ⟨g2, 0, none⟩ = some (.int .u64 a0_0) := (blk_cell BK2.out 0).trans rfl
  have pc1 : World.cell? w13 ⟨g2, 1, none⟩ = some (.int .u64 a0_1) := (blk_cell BK2.out 1).trans rfl
  have qc0 : World.cell? w13 ⟨g3, 0, none⟩ = some (.int .u64 a1_0) := (blk_cell BK3.out 0).trans rfl
  have qc1 : World.cell? w13 ⟨g3, 1, none⟩ = some (.int .u64 a1_1) := (blk_cell BK3.out 1).trans rfl
  go_wp2_with fail
  with_reducible refine (tnum_Meet.calls _ _ _ _ _ _ _ _ HM.out).mono ?_
  rintro e w14 ⟨rfl, hb⟩
  have y4 := blk_below BK4.out hb
  have hI := HI.out.below hb
  have hI' : IsS66 w w14 g11 a0_0 a0_1 (mx a0_2 a1_2) (mn a0_3 a1_3) (mx a0_4 a1_4) (mn a0_5 a1_5) := hI
  have hB := below_step HB.out hb
  clear BK2 BK3 BK4 HI HB hb hI pc0 pc1 qc0 qc1 HM
  have hlt4 := blk_lt y4
  have hlt11 := blk_lt hI'.1
  have HG4 : Aside0 (w.heap.size ≤ g4) := ⟨HN.out.2.2.2.2.2⟩
  have n411 := HN.out.2.2.1
  have n114 := n411.symm
  have HI := Aside0.mk hI'
  have HB := Aside0.mk hB
  have BK4 := Aside0.mk y4
  clear hI' hB y4 HN
  cases u3 with
  | false =>
    have H2 : num_none = some (r1, r2, r3, r4, r5, r6, r7) := (if_neg (by decide)).symm.trans H.out
    unfold num_none at H2
    obtain ⟨⟨z1, z2, z3, z4, z5, z6⟩, hA, H2⟩ := Option.bind_eq_some_iff.mp H2
    simp only [Option.some.injEq, Prod.mk.injEq] at H2
    obtain ⟨rfl, rfl, rfl, rfl, rfl, rfl, rfl⟩ := H2
    have HA := Aside0.mk hA
    clear hA H
    go_wp2_with ((with_reducible refine gate_dst (N := 7) rfl ?_); refine box_event ?hg (N := 7) ?hd (cs := #[.int .u64 0, .int .u64 0]) (t := 34) ?hr ?_; (case hd => rfl); (case hg => rfl); (case hr => first | (go_simp; done) | (go_simp; rfl)); intro g7 hg_ w15 x7 hb7; have E7 : Aside0 (w.heap.size ≤ g7 ∧ g4 < g7 ∧ g11 < g7) := ⟨by rw [hg_]; exact ⟨HB.out.size, hlt4, hlt11⟩⟩; clear hg_; have y4 := blk_below BK4.out hb7; have hI := HI.out.below hb7; have hB := below_step HB.out hb7; have n74 : g7 ≠ g4 := (by have := E7.out; omega); have n47 := n74.symm; have n711 : g7 ≠ g11 := (by have := E7.out; omega); have n117 := n711.symm; have xc0 : World.cell? w15 ⟨g7, 0, none⟩ = some (.int .u64 0) := (blk_cell x7 0).trans rfl; have xf0 := blk_frozen x7 0; have xc1 : World.cell? w15 ⟨g7, 1, none⟩ = some (.int .u64 0) := (blk_cell x7 1).trans rfl; have xf1 := blk_frozen x7 1; obtain ⟨c0, c1, c2, c3, c4, c5⟩ := num_cells hI; have kf0 := blk_frozen hI.1 0; have kf1 := blk_frozen hI.1 1)
    with_reducible refine (num_All.calls _ _ _ _ _ _ _ HA.out).mono ?_
    rintro e w16 ⟨rfl, hb16⟩
    have y4 := blk_below (o := .cells #[.int .u64 0, .int .u64 0, .int .u64 0, .int .u64 0, .int .i64 0, .int .i64 0] 36 (0, 0)) (by repeat (first | exact y4 | refine blk_far ?_ n47 _)) hb16
    have hB := below_step (by repeat (first | exact hB | refine below_set ?_ E7.out.1)) hb16
    have zc0 : World.cell? w16 ⟨g4, 0, none⟩ = some (.int .u64 0) := (blk_cell y4 0).trans rfl
    have zf0 := blk_frozen y4 0
    have zc1 : World.cell? w16 ⟨g4, 1, none⟩ = some (.int .u64 0) := (blk_cell y4 1).trans rfl
    have zf1 := blk_frozen y4 1
    have zc2 : World.cell? w16 ⟨g4, 2, none⟩ = some (.int .u64 0) := (blk_cell y4 2).trans rfl
    have zf2 := blk_frozen y4 2
    have zc3 : World.cell? w16 ⟨g4, 3, none⟩ = some (.int .u64 0) := (blk_cell y4 3).trans rfl
    have zf3 := blk_frozen y4 3
    have zc4 : World.cell? w16 ⟨g4, 4, none⟩ = some (.int .i64 0) := (blk_cell y4 4).trans rfl
    have zf4 := blk_frozen y4 4
    have zc5 : World.cell? w16 ⟨g4, 5, none⟩ = some (.int .i64 0) := (blk_cell y4 5).trans rfl
    have zf5 := blk_frozen y4 5
    go_wp2
    refine bodyPost_ret (results_ct rfl _ _ g4 36 #[.int .u64 z1, .int .u64 z2, .int .u64 z3, .int .u64 z4, .int .i64 z5, .int .i64 z6] (0, 0) _ rfl (by (with_reducible repeat (first | refine blk_drewN ?_ _ | refine blk_drew ?_ | refine blk_alloc ?_ _)); refine blk_put (cs := #[.int .u64 z1, .int .u64 z2, .int .u64 z3, .int .u64 z4, .int .i64 z5, .int .i64 0]) ?_ 5 _ rfl; refine blk_put (cs := #[.int .u64 z1, .int .u64 z2, .int .u64 z3, .int .u64 z4, .int .i64 0, .int .i64 0]) ?_ 4 _ rfl; refine blk_put (cs := #[.int .u64 z1, .int .u64 z2, .int .u64 z3, .int .u64 0, .int .i64 0, .int .i64 0]) ?_ 3 _ rfl; refine blk_put (cs := #[.int .u64 z1, .int .u64 z2, .int .u64 0, .int .u64 0, .int .i64 0, .int .i64 0]) ?_ 2 _ rfl; refine blk_put (cs := #[.int .u64 z1, .int .u64 0, .int .u64 0, .int .u64 0, .int .i64 0, .int .i64 0]) ?_ 1 _ rfl; refine blk_put (cs := #[.int .u64 0, .int .u64 0, .int .u64 0, .int .u64 0, .int .i64 0, .int .i64 0]) ?_ 0 _ rfl; (with_reducible repeat (first | refine blk_drewN ?_ _ | refine blk_drew ?_ | refine blk_alloc ?_ _)); exact y4) Try.underlying36 rfl (by kernel_rfl)) rfl ?_
    exact ⟨rfl, by repeat (first | exact hB | refine below_set ?_ HG4.out)⟩
  | true =>
    have H2 : num_Refine.f u1 u2 (mx a0_2 a1_2) (mn a0_3 a1_3) (mx a0_4 a1_4) (mn a0_5 a1_5) = some (r1, r2, r3, r4, r5, r6, r7) := (if_pos rfl).symm.trans H.out
    have HA := Aside0.mk H2
    clear H2 H
    go_wp2_with ((with_reducible refine gate_dst (N := 7) rfl ?_); refine box_event ?hg (N := 7) ?hd (cs := #[.int .u64 0, .int .u64 0]) (t := 34) ?hr ?_; (case hd => rfl); (case hg => rfl); (case hr => first | (go_simp; done) | (go_simp; rfl)); intro g7 hg_ w15 x7 hb7; have E7 : Aside0 (w.heap.size ≤ g7 ∧ g4 < g7 ∧ g11 < g7) := ⟨by rw [hg_]; exact ⟨HB.out.size, hlt4, hlt11⟩⟩; clear hg_; have y4 := blk_below BK4.out hb7; have hI := HI.out.below hb7; have hB := below_step HB.out hb7; have n74 : g7 ≠ g4 := (by have := E7.out; omega); have n47 := n74.symm; have n711 : g7 ≠ g11 := (by have := E7.out; omega); have n117 := n711.symm; have xc0 : World.cell? w15 ⟨g7, 0, none⟩ = some (.int .u64 0) := (blk_cell x7 0).trans rfl; have xf0 := blk_frozen x7 0; have xc1 : World.cell? w15 ⟨g7, 1, none⟩ = some (.int .u64 0) := (blk_cell x7 1).trans rfl; have xf1 := blk_frozen x7 1; obtain ⟨c0, c1, c2, c3, c4, c5⟩ := num_cells hI; have kf0 := blk_frozen hI.1 0; have kf1 := blk_frozen hI.1 1)
    with_reducible refine (num_Refine.calls _ _ _ _ _ _ _ _ _ _ _ _ _ _ HA.out).mono ?_
    rintro e w16 ⟨rfl, hb16⟩
    have y4 := blk_below (o := .cells #[.int .u64 0, .int .u64 0, .int .u64 0, .int .u64 0, .int .i64 0, .int .i64 0] 36 (0, 0)) (by repeat (first | exact y4 | refine blk_far ?_ n47 _ | refine blk_far ?_ n411 _)) hb16
    have hB := below_step (by repeat (first | exact hB | refine below_set ?_ E7.out.1 | refine below_set ?_ HI.out.2)) hb16
    have zc0 : World.cell? w16 ⟨g4, 0, none⟩ = some (.int .u64 0) := (blk_cell y4 0).trans rfl
    have zf0 := blk_frozen y4 0
    have zc1 : World.cell? w16 ⟨g4, 1, none⟩ = some (.int .u64 0) := (blk_cell y4 1).trans rfl
    have zf1 := blk_frozen y4 1
    have zc2 : World.cell? w16 ⟨g4, 2, none⟩ = some (.int .u64 0) := (blk_cell y4 2).trans rfl
    have zf2 := blk_frozen y4 2
    have zc3 : World.cell? w16 ⟨g4, 3, none⟩ = some (.int .u64 0) := (blk_cell y4 3).trans rfl
    have zf3 := blk_frozen y4 3
    have zc4 : World.cell? w16 ⟨g4, 4, none⟩ = some (.int .i64 0) := (blk_cell y4 4).trans rfl
    have zf4 := blk_frozen y4 4
    have zc5 : World.cell? w16 ⟨g4, 5, none⟩ = some (.int .i64 0) := (blk_cell y4 5).trans rfl
    have zf5 := blk_frozen y4 5
    go_wp2
    refine bodyPost_ret (results_ct rfl _ _ g4 36 #[.int .u64 r1, .int .u64 r2, .int .u64 r3, .int .u64 r4, .int .i64 r5, .int .i64 r6] (0, 0) _ rfl (by (with_reducible repeat (first | refine blk_drewN ?_ _ | refine blk_drew ?_ | refine blk_alloc ?_ _)); refine blk_put (cs := #[.int .u64 r1, .int .u64 r2, .int .u64 r3, .int .u64 r4, .int .i64 r5, .int .i64 0]) ?_ 5 _ rfl; refine blk_put (cs := #[.int .u64 r1, .int .u64 r2, .int .u64 r3, .int .u64 r4, .int .i64 0, .int .i64 0]) ?_ 4 _ rfl; refine blk_put (cs := #[.int .u64 r1, .int .u64 r2, .int .u64 r3, .int .u64 0, .int .i64 0, .int .i64 0]) ?_ 3 _ rfl; refine blk_put (cs := #[.int .u64 r1, .int .u64 r2, .int .u64 0, .int .u64 0, .int .i64 0, .int .i64 0]) ?_ 2 _ rfl; refine blk_put (cs := #[.int .u64 r1, .int .u64 0, .int .u64 0, .int .u64 0, .int .i64 0, .int .i64 0]) ?_ 1 _ rfl; refine blk_put (cs := #[.int .u64 0, .int .u64 0, .int .u64 0, .int .u64 0, .int .i64 0, .int .i64 0]) ?_ 0 _ rfl; (with_reducible repeat (first | refine blk_drewN ?_ _ | refine blk_drew ?_ | refine blk_alloc ?_ _)); exact y4) Try.underlying36 rfl (by kernel_rfl)) rfl ?_
    exact ⟨rfl, by repeat (first | exact hB | refine below_set ?_ HG4.out)⟩

/-! ### words_IsSize: function 59 -/
def words_IsSize.f (a0 : Int) : Option (Bool) := if a0 = 1 then (some true) else (if a0 = 2 then (some true) else (if a0 = 4 then (some true) else (some (a0 == 8))))
set_option maxHeartbeats 8000000 in
set_option maxRecDepth 100000 in
theorem words_IsSize.calls (a0 : Int) (r : Bool) (w : World) (h : words_IsSize.f a0 = some r) :
    Calls Try.prog 59 #[.int .i64 a0] w fun e w' => e = .returned (.bool r) ∧ Drawn0 w w' := by
  have H : (if a0 = 1 then (some true) else (if a0 = 2 then (some true) else (if a0 = 4 then (some true) else (some (a0 == 8))))) = some r := h
  clear h
  by_cases c2 : a0 = 1
  · rw [if_pos c2] at H
    have c2b0 : (a0 == 1) = true := beq_iff_eq.mpr c2
    have c2b1 : (a0 != 1) = false := bne_eq_false_iff_eq.mpr c2
    clear c2
    obtain rfl := Option.some.inj H
    go_enter Try.func59, Try.ntmps59
    go_wp2
    go_ret
    exact ⟨by first | rfl | (simp; done) | (simp [*]; done), by repeat (first | exact Drawn0.refl _ | apply Drawn0.step)⟩
  · rw [if_neg c2] at H
    have c2b0 : (a0 == 1) = false := beq_eq_false_iff_ne.mpr c2
    have c2b1 : (a0 != 1) = true := bne_iff_ne.mpr c2
    by_cases c3 : a0 = 2
    · rw [if_pos c3] at H
      have c3b0 : (a0 == 2) = true := beq_iff_eq.mpr c3
      have c3b1 : (a0 != 2) = false := bne_eq_false_iff_eq.mpr c3
      clear c3
      obtain rfl := Option.some.inj H
      go_enter Try.func59, Try.ntmps59
      go_wp2
      go_ret
      exact ⟨by first | rfl | (simp; done) | (simp [*]; done), by repeat (first | exact Drawn0.refl _ | apply Drawn0.step)⟩
    · rw [if_neg c3] at H
      have c3b0 : (a0 == 2) = false := beq_eq_false_iff_ne.mpr c3
      have c3b1 : (a0 != 2) = true := bne_iff_ne.mpr c3
      by_cases c4 : a0 = 4
      · rw [if_pos c4] at H
        have c4b0 : (a0 == 4) = true := beq_iff_eq.mpr c4
        have c4b1 : (a0 != 4) = false := bne_eq_false_iff_eq.mpr c4
        clear c4
        obtain rfl := Option.some.inj H
        go_enter Try.func59, Try.ntmps59
        go_wp2
        go_ret
        exact ⟨by first | rfl | (simp; done) | (simp [*]; done), by repeat (first | exact Drawn0.refl _ | apply Drawn0.step)⟩
      · rw [if_neg c4] at H
        have c4b0 : (a0 == 4) = false := beq_eq_false_iff_ne.mpr c4
        have c4b1 : (a0 != 4) = true := bne_iff_ne.mpr c4
        obtain rfl := Option.some.inj H
        go_enter Try.func59, Try.ntmps59
        go_wp2
        go_ret
        exact ⟨by first | rfl | (simp; done) | (simp [*]; done), by repeat (first | exact Drawn0.refl _ | apply Drawn0.step)⟩

/-! ### words_Zext: function 36 -/
def words_Zext.f (a0 : Int) (a1 : Int) : Option (Int) := (words_IsSize.f a1).bind fun t125 => (if t125 = true then ((words_Low.f (wrap64 (8 * a1))).bind fun t126 => (some (Go.bits .and .u64 a0 t126))) else (some a0))
set_option maxHeartbeats 8000000 in
set_option maxRecDepth 100000 in
theorem words_Zext.calls (a0 : Int) (a1 : Int) (r : Int) (w : World) (h : words_Zext.f a0 a1 = some r) :
    Calls Try.prog 36 #[.int .u64 a0, .int .i64 a1] w fun e w' => e = .returned (.int .u64 r) ∧ Drawn0 w w' := by
  have H : ((words_IsSize.f a1).bind fun t125 => (if t125 = true then ((words_Low.f (wrap64 (8 * a1))).bind fun t126 => (some (Go.bits .and .u64 a0 t126))) else (some a0))) = some r := h
  clear h
  replace H := Option.bind_eq_some_iff.mp H
  obtain ⟨t125, A30, H⟩ := H
  replace H : (if t125 = true then ((words_Low.f (wrap64 (8 * a1))).bind fun t126 => (some (Go.bits .and .u64 a0 t126))) else (some a0)) = some r := H
  have A3 := Aside0.mk A30
  clear A30
  by_cases c4 : t125 = true
  · subst c4
    have H1 : ((words_Low.f (wrap64 (8 * a1))).bind fun t126 => (some (Go.bits .and .u64 a0 t126))) = some r := by rw [if_pos rfl] at H; exact H
    clear H
    have H := H1
    clear H1
    replace H := Option.bind_eq_some_iff.mp H
    obtain ⟨t126, A50, H⟩ := H
    replace H : (some (Go.bits .and .u64 a0 t126)) = some r := H
    have A5 := Aside0.mk A50
    clear A50
    obtain rfl := Option.some.inj H
    go_enter Try.func36, Try.ntmps36
    go_wp2_with (first | ((with_reducible refine gate_callee (f := 59) rfl ?_); refine goesL_ (some 6) rfl rfl Try.func59 (by kernel_rfl) rfl #[.int .i64 a1] rfl (by (try simp only [List.map_toArray, List.map_cons, List.map_nil]); first | done | rfl | (simp only [List.length_drop, List.length_take]; rfl)) ?_; (with_reducible refine (words_IsSize.calls a1 true _ A3.out).mono ?_); rintro e w' ⟨rfl, ⟨nd, rfl⟩⟩; refine ⟨_, rfl, ?_⟩) | ((with_reducible refine gate_callee (f := 61) rfl ?_); refine goesL_ (some 12) rfl rfl Try.func61 (by kernel_rfl) rfl #[.int .i64 (wrap64 (8 * a1))] rfl (by (try simp only [List.map_toArray, List.map_cons, List.map_nil]); first | done | rfl | (simp only [List.length_drop, List.length_take]; rfl)) ?_; (with_reducible refine (words_Low.calls (wrap64 (8 * a1)) t126 _ A5.out).mono ?_); rintro e w' ⟨rfl, ⟨nd, rfl⟩⟩; refine ⟨_, rfl, ?_⟩))
    go_ret
    exact ⟨by first | rfl | (simp; done) | (simp [*]; done), by repeat (first | exact Drawn0.refl _ | apply Drawn0.step)⟩
  · replace c4 := Bool.eq_false_iff.mpr c4
    subst c4
    have H1 : (some a0) = some r := by rw [if_neg (show ¬ (false = true) by decide)] at H; exact H
    clear H
    have H := H1
    clear H1
    obtain rfl := Option.some.inj H
    go_enter Try.func36, Try.ntmps36
    go_wp2_with (first | ((with_reducible refine gate_callee (f := 59) rfl ?_); refine goesL_ (some 6) rfl rfl Try.func59 (by kernel_rfl) rfl #[.int .i64 a1] rfl (by (try simp only [List.map_toArray, List.map_cons, List.map_nil]); first | done | rfl | (simp only [List.length_drop, List.length_take]; rfl)) ?_; (with_reducible refine (words_IsSize.calls a1 false _ A3.out).mono ?_); rintro e w' ⟨rfl, ⟨nd, rfl⟩⟩; refine ⟨_, rfl, ?_⟩))
    go_ret
    exact ⟨by first | rfl | (simp; done) | (simp [*]; done), by repeat (first | exact Drawn0.refl _ | apply Drawn0.step)⟩

/-! ### tnum_Cut: function 60 -/
def tnum_Cut.f (a0_0 : Int) (a0_1 : Int) (a1 : Int) : Option (Int × Int) := (tnum_right.f a0_0 a0_1).bind fun bt129 => ((words_Zext.f bt129.1 a1).bind fun t131 => ((words_Zext.f bt129.2 a1).bind fun t132 => (some (t131, t132))))
def tnum_Cut.T2 : Bool × List (List Nat × List Nat) := (true, [([], []), ([0], [0]), ([], []), ([1, 2], [1, 2]), ([], []), ([4], [4]), ([], []), ([5, 6, 3], [5, 6]), ([3, 7], [3, 7]), ([8, 7, 0, 1, 2, 3, 4, 5, 6, 7, 8], [8])])
def tnum_Cut.B2 : List Nat := [0, 1, 0, 7, 0, 16, 0, 127, 255, 511]
theorem tnum_Cut.tab2 : rtab .any (opsOf Try.f60 2) = tnum_Cut.T2 := by kernel_rfl
theorem tnum_Cut.bits2 : waitsOk tnum_Cut.T2.2 tnum_Cut.B2 = true := by kernel_rfl
set_option maxHeartbeats 8000000 in
set_option maxRecDepth 100000 in
theorem tnum_Cut.calls (a0_0 : Int) (a0_1 : Int) (a1 : Int) (r1 : Int) (r2 : Int) (w : World) (h : tnum_Cut.f a0_0 a0_1 a1 = some (r1, r2)) :
    Calls Try.prog 60 #[.agg #[.int .u64 a0_0, .int .u64 a0_1], .int .i64 a1] w fun e w' => e = .returned (.agg #[.int .u64 r1, .int .u64 r2]) ∧ Below w.heap.size w w' := by
  have hu34 := Try.underlying34
  have HB := Aside0.mk (Below.refl w.heap.size w)
  have H : ((tnum_right.f a0_0 a0_1).bind fun bt129 => ((words_Zext.f bt129.1 a1).bind fun t131 => ((words_Zext.f bt129.2 a1).bind fun t132 => (some (t131, t132))))) = some (r1, r2) := h
  clear h
  replace H := Option.bind_eq_some_iff.mp H
  obtain ⟨⟨t129, t130⟩, A30, H⟩ := H
  replace H : ((words_Zext.f t129 a1).bind fun t131 => ((words_Zext.f t130 a1).bind fun t132 => (some (t131, t132)))) = some (r1, r2) := H
  have A3 := Aside0.mk A30
  clear A30
  replace H := Option.bind_eq_some_iff.mp H
  obtain ⟨t131, A40, H⟩ := H
  replace H : ((words_Zext.f t130 a1).bind fun t132 => (some (t131, t132))) = some (r1, r2) := H
  have A4 := Aside0.mk A40
  clear A40
  replace H := Option.bind_eq_some_iff.mp H
  obtain ⟨t132, A50, H⟩ := H
  replace H : (some (t131, t132)) = some (r1, r2) := H
  have A5 := Aside0.mk A50
  clear A50
  simp only [Option.some.injEq, Prod.mk.injEq] at H
  obtain ⟨rfl, rfl⟩ := H
  go_enter Try.func60, Try.ntmps60
  try go_wp2_with (first | ((with_reducible refine gate_dst (N := 2) rfl ?_); refine box_event ?hg (N := 2) ?hd (cs := #[.int .u64 a0_0, .int .u64 a0_1]) (t := 34) ?hr ?_; (case hd => rfl); (case hg => rfl); (case hr => first | (go_simp; done) | (go_simp; rfl)); intro gb127 hg w6 hbox hb; have n0_ := Aside0.mk (below_step (by repeat (first | (with_reducible first | exact HB.out | apply below_alloc | apply pw_below_drewN | apply below_drew1) | exact HB.out)) hb); have n1_ := Aside0.mk (hbox); have n2_ := Aside0.mk ((by rw [hg]; exact (below_size (by repeat (first | (with_reducible first | exact HB.out | apply below_alloc | apply pw_below_drewN | apply below_drew1) | exact HB.out))) : w.heap.size ≤ gb127)); have n3_ := Aside0.mk ((by rw [hg]; exact (below_size (by repeat (first | (with_reducible first | exact HB.out | apply below_alloc | apply pw_below_drewN | apply below_drew1) | exact HB.out))) : w.heap.size ≤ gb127)); clear HB; have HB := n0_; have BK127 := n1_; have GW127 := n2_; have GE127 := n3_; clear n0_ n1_ n2_ n3_; clear hb hbox hg) | ((with_reducible refine gate_dst (N := 4) rfl ?_); refine box_event ?hg (N := 4) ?hd (cs := #[.int .u64 0, .int .u64 0]) (t := 34) ?hr ?_; (case hd => rfl); (case hg => rfl); (case hr => first | (go_simp; done) | (go_simp; rfl)); intro gb128 hg w7 hbox hb; have n0_ := Aside0.mk (blk_below (g := gb127) (o := .cells #[.int .u64 a0_0, .int .u64 a0_1] 34 (0, 0)) (by (with_reducible repeat (first | refine blk_drewN ?_ _ | refine blk_drew ?_ | refine blk_alloc ?_ _)); exact BK127.out) hb); have n1_ := Aside0.mk (below_step (by repeat (first | (with_reducible first | exact HB.out | apply below_alloc | apply pw_below_drewN | apply below_drew1 | refine below_set ?_ GE127.out) | exact HB.out)) hb); have n2_ := Aside0.mk (hbox); have n3_ := Aside0.mk ((by rw [hg]; exact (below_size (by repeat (first | (with_reducible first | exact HB.out | apply below_alloc | apply pw_below_drewN | apply below_drew1 | refine below_set ?_ GE127.out) | exact HB.out))) : w.heap.size ≤ gb128)); have n4_ := Aside0.mk ((by rw [hg]; exact (below_size (by repeat (first | (with_reducible first | exact HB.out | apply below_alloc | apply pw_below_drewN | apply below_drew1 | refine below_set ?_ GE127.out) | exact HB.out))) : w.heap.size ≤ gb128)); have n5_ := Aside0.mk ((by rw [hg]; exact Nat.ne_of_lt (blk_lt (g := gb127) (o := .cells #[.int .u64 a0_0, .int .u64 a0_1] 34 (0, 0)) (by (with_reducible repeat (first | refine blk_drewN ?_ _ | refine blk_drew ?_ | refine blk_alloc ?_ _)); exact BK127.out)) : gb127 ≠ gb128)); have n6_ := Aside0.mk ((by rw [hg]; exact Nat.ne_of_gt (blk_lt (g := gb127) (o := .cells #[.int .u64 a0_0, .int .u64 a0_1] 34 (0, 0)) (by (with_reducible repeat (first | refine blk_drewN ?_ _ | refine blk_drew ?_ | refine blk_alloc ?_ _)); exact BK127.out)) : gb128 ≠ gb127)); clear BK127; clear HB; have BK127 := n0_; have HB := n1_; have BK128 := n2_; have GW128 := n3_; have GE128 := n4_; have NB127_128 := n5_; have NB128_127 := n6_; clear n0_ n1_ n2_ n3_ n4_ n5_ n6_; clear hb hbox hg; have hnb8 := NB127_128.out; have hnc8 := NB128_127.out; have hcz9_0 : w7.cell? ⟨gb127, 0, none⟩ = some (.int .u64 a0_0) := (blk_cell BK127.out 0).trans rfl; have hcz9_1 : w7.cell? ⟨gb127, 1, none⟩ = some (.int .u64 a0_1) := (blk_cell BK127.out 1).trans rfl; have hfz9_0 := blk_frozen BK127.out 0; have hfz9_1 := blk_frozen BK127.out 1) | ((with_reducible refine gate_callee (f := 87) rfl ?_); refine goesL_ (some 6) rfl rfl Try.func87 (by kernel_rfl) rfl #[.agg #[.int .u64 a0_0, .int .u64 a0_1]] rfl (by (try simp only [List.map_toArray, List.map_cons, List.map_nil]); first | done | rfl | (simp only [List.length_drop, List.length_take]; rfl)) ?_; (with_reducible refine (tnum_right.calls a0_0 a0_1 t129 t130 _ A3.out).mono ?_); rintro e w10 ⟨rfl, hb⟩; refine ⟨_, rfl, ?_⟩; have n0_ := Aside0.mk (blk_below (g := gb127) (o := .cells #[.int .u64 a0_0, .int .u64 a0_1] 34 (0, 0)) (by (with_reducible repeat (first | refine blk_drewN ?_ _ | refine blk_drew ?_ | refine blk_alloc ?_ _)); exact BK127.out) hb); have n1_ := Aside0.mk (blk_below (g := gb128) (o := .cells #[.int .u64 0, .int .u64 0] 34 (0, 0)) (by (with_reducible repeat (first | refine blk_drewN ?_ _ | refine blk_drew ?_ | refine blk_alloc ?_ _)); exact BK128.out) hb); have n2_ := Aside0.mk (below_step (by repeat (first | (with_reducible first | exact HB.out | apply below_alloc | apply pw_below_drewN | apply below_drew1 | refine below_set ?_ GE127.out | refine below_set ?_ GE128.out) | exact HB.out)) hb); clear BK127; clear BK128; clear HB; have BK127 := n0_; have BK128 := n1_; have HB := n2_; clear n0_ n1_ n2_; (try clear hb); (try clear hb2); (try clear hk); (try clear hi); have hcz11_0 : w10.cell? ⟨gb127, 0, none⟩ = some (.int .u64 a0_0) := (blk_cell BK127.out 0).trans rfl; have hcz11_1 : w10.cell? ⟨gb127, 1, none⟩ = some (.int .u64 a0_1) := (blk_cell BK127.out 1).trans rfl; have hfz11_0 := blk_frozen BK127.out 0; have hfz11_1 := blk_frozen BK127.out 1))
  have n0_ : Aside0 (((w10.setCell ⟨gb127, 0, none⟩ (.int .u64 t129)).setCell ⟨gb127, 1, none⟩ (.int .u64 t130)).heap[gb127]? = some (.cells #[.int .u64 t129, .int .u64 t130] 34 (0, 0))) := ⟨by (with_reducible repeat (first | refine blk_drewN ?_ _ | refine blk_drew ?_ | refine blk_alloc ?_ _)); refine blk_put (cs := #[.int .u64 t129, .int .u64 a0_1]) ?_ 1 _ rfl; refine blk_put (cs := #[.int .u64 a0_0, .int .u64 a0_1]) ?_ 0 _ rfl; (with_reducible repeat (first | refine blk_drewN ?_ _ | refine blk_drew ?_ | refine blk_alloc ?_ _)); exact BK127.out⟩
  have n1_ : Aside0 (((w10.setCell ⟨gb127, 0, none⟩ (.int .u64 t129)).setCell ⟨gb127, 1, none⟩ (.int .u64 t130)).heap[gb128]? = some (.cells #[.int .u64 0, .int .u64 0] 34 (0, 0))) := ⟨by (with_reducible repeat (first | refine blk_drewN ?_ _ | refine blk_drew ?_ | refine blk_alloc ?_ _)); refine blk_far ?_ NB128_127.out _; refine blk_far ?_ NB128_127.out _; (with_reducible repeat (first | refine blk_drewN ?_ _ | refine blk_drew ?_ | refine blk_alloc ?_ _)); exact BK128.out⟩
  have n2_ : Aside0 (Below w.heap.size w ((w10.setCell ⟨gb127, 0, none⟩ (.int .u64 t129)).setCell ⟨gb127, 1, none⟩ (.int .u64 t130))) := ⟨by repeat (first | (with_reducible first | exact HB.out | apply below_alloc | apply pw_below_drewN | apply below_drew1 | refine below_set ?_ GE127.out | refine below_set ?_ GE128.out) | exact HB.out)⟩
  (try clear BK127)
  (try clear BK128)
  (try clear HB)
  generalize ((w10.setCell ⟨gb127, 0, none⟩ (.int .u64 t129)).setCell ⟨gb127, 1, none⟩ (.int .u64 t130)) = w12 at n0_ n1_ n2_ ⊢
  have BK127 := n0_
  have BK128 := n1_
  have HB := n2_
  clear n0_ n1_ n2_
  have n0_ := Aside0.mk (blk_drew BK127.out)
  have n1_ := Aside0.mk (blk_drew BK128.out)
  have n2_ := Aside0.mk (below_drew1 HB.out)
  clear BK127
  clear BK128
  clear HB
  have BK127 := n0_
  have BK128 := n1_
  have HB := n2_
  clear n0_ n1_ n2_
  refine start_ (n := 10) (S := fun w' => w'.cell? ⟨gb127, 0, none⟩ = some (.int .u64 t129) ∧ w'.cell? ⟨gb127, 1, none⟩ = some (.int .u64 t130)) (ds := []) #[false, false, false, false, false, false, false, false, false, false] (by kernel_rfl) rfl rfl ⟨(blk_cell BK127.out 0).trans rfl, (blk_cell BK127.out 1).trans rfl⟩ (fun hHeld => ?_); refine with_tabW tnum_Cut.tab2 tnum_Cut.bits2 (fun HT_ HW_ => ?_)
  generalize w12.drew = w13 at BK127 BK128 HB hHeld ⊢
  refine pure_ (i := 0) (N := some 7) (v := ?_) (a' := ?_) #[true, false, false, false, false, false, false, false, false, false] rfl rfl (any_of HT_.out (by kernel_rfl)) (fun _ _ _ h => h) (Or.inl ⟨by rfl, ?_⟩) ?_ ?_
  rotate_left
  · intro w'
    go_simp
    with_reducible rfl
  rotate_left
  · simp only [Act.put, List.setIfInBounds_toArray, List.set_cons_zero, List.set_cons_succ, i64_w, i32_w]
    rfl
  refine pure_ (i := 2) (N := some 9) (v := ?_) (a' := ?_) #[true, false, true, false, false, false, false, false, false, false] rfl rfl (any_of HT_.out (by kernel_rfl)) (fun _ _ _ h => h) (Or.inl ⟨by rfl, ?_⟩) ?_ ?_
  rotate_left
  · intro w'
    go_simp
    with_reducible rfl
  rotate_left
  · simp only [Act.put, List.setIfInBounds_toArray, List.set_cons_zero, List.set_cons_succ, i64_w, i32_w]
    rfl
  refine pure_ (i := 4) (N := some 11) (v := ?_) (a' := ?_) #[true, false, true, false, true, false, false, false, false, false] rfl rfl (any_of HT_.out (by kernel_rfl)) (fun _ _ _ h => h) (Or.inl ⟨by rfl, ?_⟩) ?_ ?_
  rotate_left
  · intro w'
    go_simp
    with_reducible rfl
  rotate_left
  · simp only [Act.put, List.setIfInBounds_toArray, List.set_cons_zero, List.set_cons_succ, i64_w, i32_w]
    rfl
  refine pure_ (i := 6) (N := some 13) (v := ?_) (a' := ?_) #[true, false, true, false, true, false, true, false, false, false] rfl rfl (any_of HT_.out (by kernel_rfl)) (fun _ _ _ h => h) (Or.inl ⟨by rfl, ?_⟩) ?_ ?_
  rotate_left
  · intro w'
    go_simp
    with_reducible rfl
  rotate_left
  · simp only [Act.put, List.setIfInBounds_toArray, List.set_cons_zero, List.set_cons_succ, i64_w, i32_w]
    rfl
  refine take_ (i := 1) (N := some 8) (v := ?_) (a' := ?_) #[true, true, true, false, true, false, true, false, false, false] rfl rfl (take_ofW HT_.out HW_.out (by kernel_rfl)) (fun _ _ _ h => h) (Or.inl ⟨by rfl, ?_⟩) hHeld ?_ ?_
  rotate_left
  · rintro w' ⟨s0, s1⟩
    go_simp
    with_reducible rfl
  rotate_left
  · simp only [Act.put, List.setIfInBounds_toArray, List.set_cons_zero, List.set_cons_succ, i64_w, i32_w]
    rfl
  refine take_ (i := 5) (N := some 12) (v := ?_) (a' := ?_) #[true, true, true, false, true, true, true, false, false, false] rfl rfl (take_ofW HT_.out HW_.out (by kernel_rfl)) (fun _ _ _ h => h) (Or.inl ⟨by rfl, ?_⟩) hHeld ?_ ?_
  rotate_left
  · rintro w' ⟨s0, s1⟩
    go_simp
    with_reducible rfl
  rotate_left
  · simp only [Act.put, List.setIfInBounds_toArray, List.set_cons_zero, List.set_cons_succ, i64_w, i32_w]
    rfl
  refine one_ (i := 3) (N := some 10) #[true, true, true, true, true, true, true, false, false, false] rfl rfl (one_of HT_.out (by kernel_rfl)) (by decide) (fun K hK => ?_)
  refine goes_ Try.func36 (by kernel_rfl) rfl #[.int .u64 t129, .int .i64 a1] (by rfl) rfl rfl (by (try simp only [List.map_toArray, List.map_cons, List.map_nil]); first | done | rfl | (simp only [List.length_drop, List.length_take]; rfl)) ?_
  with_reducible refine (words_Zext.calls t129 a1 t131 _ A4.out).mono ?_
  rintro e w' ⟨rfl, ⟨nd, rfl⟩⟩
  refine ⟨_, rfl, ?_⟩
  refine hK.out _ _ ⟨(blk_cell BK127.out 0).trans rfl, (blk_cell BK127.out 1).trans rfl⟩ (fun hHeld => ?_)
  clear hK K
  refine norm_ (a' := ?_) ?_ ?_
  rotate_left
  · show Act.put _ (some 10) _ = _
    simp only [Act.put, List.setIfInBounds_toArray, List.set_cons_zero, List.set_cons_succ, i64_w, i32_w]
    rfl
  refine one_ (i := 7) (N := some 14) #[true, true, true, true, true, true, true, true, false, false] rfl rfl (one_of HT_.out (by kernel_rfl)) (by decide) (fun K hK => ?_)
  refine goes_ Try.func36 (by kernel_rfl) rfl #[.int .u64 t130, .int .i64 a1] (by rfl) rfl rfl (by (try simp only [List.map_toArray, List.map_cons, List.map_nil]); first | done | rfl | (simp only [List.length_drop, List.length_take]; rfl)) ?_
  with_reducible refine (words_Zext.calls t130 a1 t132 _ A5.out).mono ?_
  rintro e w' ⟨rfl, ⟨nd, rfl⟩⟩
  refine ⟨_, rfl, ?_⟩
  refine hK.out _ _ ⟨(blk_cell BK127.out 0).trans rfl, (blk_cell BK127.out 1).trans rfl⟩ (fun hHeld => ?_)
  clear hK K
  refine norm_ (a' := ?_) ?_ ?_
  rotate_left
  · show Act.put _ (some 14) _ = _
    simp only [Act.put, List.setIfInBounds_toArray, List.set_cons_zero, List.set_cons_succ, i64_w, i32_w]
    rfl
  refine pure_ (i := 8) (N := some 15) (v := ?_) (a' := ?_) #[true, true, true, true, true, true, true, true, true, false] rfl rfl (any_of HT_.out (by kernel_rfl)) (fun _ _ _ h => h) (Or.inl ⟨by rfl, ?_⟩) ?_ ?_
  rotate_left
  · intro w'
    go_simp
    with_reducible rfl
  rotate_left
  · simp only [Act.put, List.setIfInBounds_toArray, List.set_cons_zero, List.set_cons_succ, i64_w, i32_w]
    rfl
  refine one_ (i := 9) (N := none) #[true, true, true, true, true, true, true, true, true, true] rfl rfl (one_of HT_.out (by kernel_rfl)) (by decide) (fun K hK => ?_)
  have hs14 : w13.cell? ⟨gb128, 0, none⟩ = some (.int .u64 0) := (blk_cell BK128.out 0).trans rfl
  have hfs14 := blk_frozen BK128.out 0
  have hns14_0 := NB127_128.out
  have hms14_0 := NB128_127.out
  have hs15 : w13.cell? ⟨gb128, 1, none⟩ = some (.int .u64 0) := (blk_cell BK128.out 1).trans rfl
  have hfs15 := blk_frozen BK128.out 1
  have hns15_0 := NB127_128.out
  have hms15_0 := NB128_127.out
  refine skip_ (w1 := ?_) (by rfl) rfl ?_ ?_
  rotate_left
  · go_simp
    rfl
  refine hK.out _ _ ⟨((cell_far (p := ⟨gb128, _, none⟩) NB127_128.out _).trans (((cell_far (p := ⟨gb128, _, none⟩) NB127_128.out _).trans (hHeld.1)))), ((cell_far (p := ⟨gb128, _, none⟩) NB127_128.out _).trans (((cell_far (p := ⟨gb128, _, none⟩) NB127_128.out _).trans (hHeld.2))))⟩ (fun hHeld => ?_)
  clear hK K
  refine done_ (done_of HT_.out (by kernel_rfl)) ?_
  try go_wp2
  refine bodyPost_ret (results_cell_row rfl _ _ gb128 34 #[.int .u64 t131, .int .u64 t132] (0, 0) _ rfl (by (with_reducible repeat (first | refine blk_drewN ?_ _ | refine blk_drew ?_ | refine blk_alloc ?_ _)); refine blk_put (cs := #[.int .u64 t131, .int .u64 0]) ?_ 1 _ rfl; refine blk_put (cs := #[.int .u64 0, .int .u64 0]) ?_ 0 _ rfl; (with_reducible repeat (first | refine blk_drewN ?_ _ | refine blk_drew ?_ | refine blk_alloc ?_ _)); exact BK128.out) Try.underlying34 rfl (by kernel_rfl)) rfl ?_
  exact ⟨by first | rfl | (simp [errW_none, errW_some] <;> rfl) | (simp [*, errW_none, errW_some] <;> rfl), by repeat (first | (with_reducible first | exact HB.out | apply below_alloc | apply pw_below_drewN | apply below_drew1 | refine below_set ?_ GE127.out | refine below_set ?_ GE128.out) | exact HB.out)⟩

/-! ### num_Low: function 62 -/
def num_Low.f (a0_0 : Int) (a0_1 : Int) (a0_2 : Int) (a0_3 : Int) (a0_4 : Int) (a0_5 : Int) (a1 : Int) : Option (Bool) := (words_Zext.f a0_3 a1).bind fun t134 => (some (a0_3 == t134))
set_option maxHeartbeats 8000000 in
set_option maxRecDepth 100000 in
theorem num_Low.calls (a0_0 : Int) (a0_1 : Int) (a0_2 : Int) (a0_3 : Int) (a0_4 : Int) (a0_5 : Int) (a1 : Int) (r : Bool) (w : World) (h : num_Low.f a0_0 a0_1 a0_2 a0_3 a0_4 a0_5 a1 = some r) :
    Calls Try.prog 62 #[.agg #[.int .u64 a0_0, .int .u64 a0_1, .int .u64 a0_2, .int .u64 a0_3, .int .i64 a0_4, .int .i64 a0_5], .int .i64 a1] w fun e w' => e = .returned (.bool r) ∧ Below w.heap.size w w' := by
  have hu36 := Try.underlying36
  have HB := Aside0.mk (Below.refl w.heap.size w)
  have H : ((words_Zext.f a0_3 a1).bind fun t134 => (some (a0_3 == t134))) = some r := h
  clear h
  replace H := Option.bind_eq_some_iff.mp H
  obtain ⟨t134, A30, H⟩ := H
  replace H : (some (a0_3 == t134)) = some r := H
  have A3 := Aside0.mk A30
  clear A30
  obtain rfl := Option.some.inj H
  go_enter Try.func62, Try.ntmps62
  go_wp2_with (first | ((with_reducible refine gate_dst (N := 2) rfl ?_); refine box_event ?hg (N := 2) ?hd (cs := #[.int .u64 a0_0, .int .u64 a0_1, .int .u64 a0_2, .int .u64 a0_3, .int .i64 a0_4, .int .i64 a0_5]) (t := 36) ?hr ?_; (case hd => rfl); (case hg => rfl); (case hr => first | (go_simp; done) | (go_simp; rfl)); intro gb133 hg w4 hbox hb; have n0_ := Aside0.mk (below_step (by repeat (first | (with_reducible first | exact HB.out | apply below_alloc | apply pw_below_drewN | apply below_drew1) | exact HB.out)) hb); have n1_ := Aside0.mk (hbox); have n2_ := Aside0.mk ((by rw [hg]; exact (below_size (by repeat (first | (with_reducible first | exact HB.out | apply below_alloc | apply pw_below_drewN | apply below_drew1) | exact HB.out))) : w.heap.size ≤ gb133)); have n3_ := Aside0.mk ((by rw [hg]; exact (below_size (by repeat (first | (with_reducible first | exact HB.out | apply below_alloc | apply pw_below_drewN | apply below_drew1) | exact HB.out))) : w.heap.size ≤ gb133)); clear HB; have HB := n0_; have BK133 := n1_; have GW133 := n2_; have GE133 := n3_; clear n0_ n1_ n2_ n3_; clear hb hbox hg; have hcz5_0 : w4.cell? ⟨gb133, 0, none⟩ = some (.int .u64 a0_0) := (blk_cell BK133.out 0).trans rfl; have hcz5_1 : w4.cell? ⟨gb133, 1, none⟩ = some (.int .u64 a0_1) := (blk_cell BK133.out 1).trans rfl; have hcz5_2 : w4.cell? ⟨gb133, 2, none⟩ = some (.int .u64 a0_2) := (blk_cell BK133.out 2).trans rfl; have hcz5_3 : w4.cell? ⟨gb133, 3, none⟩ = some (.int .u64 a0_3) := (blk_cell BK133.out 3).trans rfl; have hcz5_4 : w4.cell? ⟨gb133, 4, none⟩ = some (.int .i64 a0_4) := (blk_cell BK133.out 4).trans rfl; have hcz5_5 : w4.cell? ⟨gb133, 5, none⟩ = some (.int .i64 a0_5) := (blk_cell BK133.out 5).trans rfl; have hfz5_0 := blk_frozen BK133.out 0; have hfz5_1 := blk_frozen BK133.out 1; have hfz5_2 := blk_frozen BK133.out 2; have hfz5_3 := blk_frozen BK133.out 3; have hfz5_4 := blk_frozen BK133.out 4; have hfz5_5 := blk_frozen BK133.out 5) | (go_at_call 36; (with_reducible refine (words_Zext.calls a0_3 a1 t134 _ A3.out).mono ?_); rintro e w' ⟨rfl, ⟨nd, rfl⟩⟩; (try first | exact ⟨rfl, _, World.drewN_drewN _ _ _⟩ | exact ⟨rfl, _, Eq.trans (World.drewN_drewN _ _ _) (congrArg (World.drewN _) (Nat.add_assoc _ _ _))⟩)))
  repeat (go_quiet (first | ((with_reducible refine gate_dst (N := 2) rfl ?_); refine box_event ?hg (N := 2) ?hd (cs := #[.int .u64 a0_0, .int .u64 a0_1, .int .u64 a0_2, .int .u64 a0_3, .int .i64 a0_4, .int .i64 a0_5]) (t := 36) ?hr ?_; (case hd => rfl); (case hg => rfl); (case hr => first | (go_simp; done) | (go_simp; rfl)); intro gb133 hg w4 hbox hb; have n0_ := Aside0.mk (below_step (by repeat (first | (with_reducible first | exact HB.out | apply below_alloc | apply pw_below_drewN | apply below_drew1) | exact HB.out)) hb); have n1_ := Aside0.mk (hbox); have n2_ := Aside0.mk ((by rw [hg]; exact (below_size (by repeat (first | (with_reducible first | exact HB.out | apply below_alloc | apply pw_below_drewN | apply below_drew1) | exact HB.out))) : w.heap.size ≤ gb133)); have n3_ := Aside0.mk ((by rw [hg]; exact (below_size (by repeat (first | (with_reducible first | exact HB.out | apply below_alloc | apply pw_below_drewN | apply below_drew1) | exact HB.out))) : w.heap.size ≤ gb133)); clear HB; have HB := n0_; have BK133 := n1_; have GW133 := n2_; have GE133 := n3_; clear n0_ n1_ n2_ n3_; clear hb hbox hg; have hcz5_0 : w4.cell? ⟨gb133, 0, none⟩ = some (.int .u64 a0_0) := (blk_cell BK133.out 0).trans rfl; have hcz5_1 : w4.cell? ⟨gb133, 1, none⟩ = some (.int .u64 a0_1) := (blk_cell BK133.out 1).trans rfl; have hcz5_2 : w4.cell? ⟨gb133, 2, none⟩ = some (.int .u64 a0_2) := (blk_cell BK133.out 2).trans rfl; have hcz5_3 : w4.cell? ⟨gb133, 3, none⟩ = some (.int .u64 a0_3) := (blk_cell BK133.out 3).trans rfl; have hcz5_4 : w4.cell? ⟨gb133, 4, none⟩ = some (.int .i64 a0_4) := (blk_cell BK133.out 4).trans rfl; have hcz5_5 : w4.cell? ⟨gb133, 5, none⟩ = some (.int .i64 a0_5) := (blk_cell BK133.out 5).trans rfl; have hfz5_0 := blk_frozen BK133.out 0; have hfz5_1 := blk_frozen BK133.out 1; have hfz5_2 := blk_frozen BK133.out 2; have hfz5_3 := blk_frozen BK133.out 3; have hfz5_4 := blk_frozen BK133.out 4; have hfz5_5 := blk_frozen BK133.out 5) | (go_at_call 36; (with_reducible refine (words_Zext.calls a0_3 a1 t134 _ A3.out).mono ?_); rintro e w' ⟨rfl, ⟨nd, rfl⟩⟩; (try first | exact ⟨rfl, _, World.drewN_drewN _ _ _⟩ | exact ⟨rfl, _, Eq.trans (World.drewN_drewN _ _ _) (congrArg (World.drewN _) (Nat.add_assoc _ _ _))⟩))); try go_wp2_with (first | ((with_reducible refine gate_dst (N := 2) rfl ?_); refine box_event ?hg (N := 2) ?hd (cs := #[.int .u64 a0_0, .int .u64 a0_1, .int .u64 a0_2, .int .u64 a0_3, .int .i64 a0_4, .int .i64 a0_5]) (t := 36) ?hr ?_; (case hd => rfl); (case hg => rfl); (case hr => first | (go_simp; done) | (go_simp; rfl)); intro gb133 hg w4 hbox hb; have n0_ := Aside0.mk (below_step (by repeat (first | (with_reducible first | exact HB.out | apply below_alloc | apply pw_below_drewN | apply below_drew1) | exact HB.out)) hb); have n1_ := Aside0.mk (hbox); have n2_ := Aside0.mk ((by rw [hg]; exact (below_size (by repeat (first | (with_reducible first | exact HB.out | apply below_alloc | apply pw_below_drewN | apply below_drew1) | exact HB.out))) : w.heap.size ≤ gb133)); have n3_ := Aside0.mk ((by rw [hg]; exact (below_size (by repeat (first | (with_reducible first | exact HB.out | apply below_alloc | apply pw_below_drewN | apply below_drew1) | exact HB.out))) : w.heap.size ≤ gb133)); clear HB; have HB := n0_; have BK133 := n1_; have GW133 := n2_; have GE133 := n3_; clear n0_ n1_ n2_ n3_; clear hb hbox hg; have hcz5_0 : w4.cell? ⟨gb133, 0, none⟩ = some (.int .u64 a0_0) := (blk_cell BK133.out 0).trans rfl; have hcz5_1 : w4.cell? ⟨gb133, 1, none⟩ = some (.int .u64 a0_1) := (blk_cell BK133.out 1).trans rfl; have hcz5_2 : w4.cell? ⟨gb133, 2, none⟩ = some (.int .u64 a0_2) := (blk_cell BK133.out 2).trans rfl; have hcz5_3 : w4.cell? ⟨gb133, 3, none⟩ = some (.int .u64 a0_3) := (blk_cell BK133.out 3).trans rfl; have hcz5_4 : w4.cell? ⟨gb133, 4, none⟩ = some (.int .i64 a0_4) := (blk_cell BK133.out 4).trans rfl; have hcz5_5 : w4.cell? ⟨gb133, 5, none⟩ = some (.int .i64 a0_5) := (blk_cell BK133.out 5).trans rfl; have hfz5_0 := blk_frozen BK133.out 0; have hfz5_1 := blk_frozen BK133.out 1; have hfz5_2 := blk_frozen BK133.out 2; have hfz5_3 := blk_frozen BK133.out 3; have hfz5_4 := blk_frozen BK133.out 4; have hfz5_5 := blk_frozen BK133.out 5) | (go_at_call 36; (with_reducible refine (words_Zext.calls a0_3 a1 t134 _ A3.out).mono ?_); rintro e w' ⟨rfl, ⟨nd, rfl⟩⟩; (try first | exact ⟨rfl, _, World.drewN_drewN _ _ _⟩ | exact ⟨rfl, _, Eq.trans (World.drewN_drewN _ _ _) (congrArg (World.drewN _) (Nat.add_assoc _ _ _))⟩))))
  go_ret
  exact ⟨by first | rfl | (simp [errW_none, errW_some] <;> rfl) | (simp [*, errW_none, errW_some] <;> rfl), by repeat (first | (with_reducible first | exact HB.out | apply below_alloc | apply pw_below_drewN | apply below_drew1 | refine below_set ?_ GE133.out) | exact HB.out)⟩

/-! ### num_orAll: function 63 -/
def num_orAll.f (a0_0 : Int) (a0_1 : Int) (a0_2 : Int) (a0_3 : Int) (a0_4 : Int) (a0_5 : Int) : Option (Int × Int × Int × Int × Int × Int) := (num_Refine.f a0_0 a0_1 a0_2 a0_3 a0_4 a0_5).bind fun bt137 => (some (bt137.1, bt137.2.1, bt137.2.2.1, bt137.2.2.2.1, bt137.2.2.2.2.1, bt137.2.2.2.2.2.1))
set_option maxHeartbeats 8000000 in
set_option maxRecDepth 100000 in
theorem num_orAll.calls (a0_0 : Int) (a0_1 : Int) (a0_2 : Int) (a0_3 : Int) (a0_4 : Int) (a0_5 : Int) (r1 : Int) (r2 : Int) (r3 : Int) (r4 : Int) (r5 : Int) (r6 : Int) (w : World) (h : num_orAll.f a0_0 a0_1 a0_2 a0_3 a0_4 a0_5 = some (r1, r2, r3, r4, r5, r6)) :
    Calls Try.prog 63 #[.agg #[.int .u64 a0_0, .int .u64 a0_1, .int .u64 a0_2, .int .u64 a0_3, .int .i64 a0_4, .int .i64 a0_5]] w fun e w' => e = .returned (.agg #[.int .u64 r1, .int .u64 r2, .int .u64 r3, .int .u64 r4, .int .i64 r5, .int .i64 r6]) ∧ Below w.heap.size w w' := by
  have hu36 := Try.underlying36
  have HB := Aside0.mk (Below.refl w.heap.size w)
  have H : ((num_Refine.f a0_0 a0_1 a0_2 a0_3 a0_4 a0_5).bind fun bt137 => (some (bt137.1, bt137.2.1, bt137.2.2.1, bt137.2.2.2.1, bt137.2.2.2.2.1, bt137.2.2.2.2.2.1))) = some (r1, r2, r3, r4, r5, r6) := h
  clear h
  replace H := Option.bind_eq_some_iff.mp H
  obtain ⟨⟨t137, t138, t139, t140, t141, t142, t143⟩, A20, H⟩ := H
  replace H : (some (t137, t138, t139, t140, t141, t142)) = some (r1, r2, r3, r4, r5, r6) := H
  have A2 := Aside0.mk A20
  clear A20
  simp only [Option.some.injEq, Prod.mk.injEq] at H
  obtain ⟨rfl, rfl, rfl, rfl, rfl, rfl⟩ := H
  go_enter Try.func63, Try.ntmps63
  go_wp2_with (first | ((with_reducible refine gate_dst (N := 1) rfl ?_); refine box_event ?hg (N := 1) ?hd (cs := #[.int .u64 a0_0, .int .u64 a0_1, .int .u64 a0_2, .int .u64 a0_3, .int .i64 a0_4, .int .i64 a0_5]) (t := 36) ?hr ?_; (case hd => rfl); (case hg => rfl); (case hr => first | (go_simp; done) | (go_simp; rfl)); intro gb135 hg w3 hbox hb; have n0_ := Aside0.mk (below_step (by repeat (first | (with_reducible first | exact HB.out | apply below_alloc | apply pw_below_drewN | apply below_drew1) | exact HB.out)) hb); have n1_ := Aside0.mk (hbox); have n2_ := Aside0.mk ((by rw [hg]; exact (below_size (by repeat (first | (with_reducible first | exact HB.out | apply below_alloc | apply pw_below_drewN | apply below_drew1) | exact HB.out))) : w.heap.size ≤ gb135)); have n3_ := Aside0.mk ((by rw [hg]; exact (below_size (by repeat (first | (with_reducible first | exact HB.out | apply below_alloc | apply pw_below_drewN | apply below_drew1) | exact HB.out))) : w.heap.size ≤ gb135)); clear HB; have HB := n0_; have BK135 := n1_; have GW135 := n2_; have GE135 := n3_; clear n0_ n1_ n2_ n3_; clear hb hbox hg) | ((with_reducible refine gate_dst (N := 2) rfl ?_); refine box_event ?hg (N := 2) ?hd (cs := #[.int .u64 0, .int .u64 0, .int .u64 0, .int .u64 0, .int .i64 0, .int .i64 0]) (t := 36) ?hr ?_; (case hd => rfl); (case hg => rfl); (case hr => first | (go_simp; done) | (go_simp; rfl)); intro gb136 hg w4 hbox hb; have n0_ := Aside0.mk (blk_below (g := gb135) (o := .cells #[.int .u64 a0_0, .int .u64 a0_1, .int .u64 a0_2, .int .u64 a0_3, .int .i64 a0_4, .int .i64 a0_5] 36 (0, 0)) (by (with_reducible repeat (first | refine blk_drewN ?_ _ | refine blk_drew ?_ | refine blk_alloc ?_ _)); exact BK135.out) hb); have n1_ := Aside0.mk (below_step (by repeat (first | (with_reducible first | exact HB.out | apply below_alloc | apply pw_below_drewN | apply below_drew1 | refine below_set ?_ GE135.out) | exact HB.out)) hb); have n2_ := Aside0.mk (hbox); have n3_ := Aside0.mk ((by rw [hg]; exact (below_size (by repeat (first | (with_reducible first | exact HB.out | apply below_alloc | apply pw_below_drewN | apply below_drew1 | refine below_set ?_ GE135.out) | exact HB.out))) : w.heap.size ≤ gb136)); have n4_ := Aside0.mk ((by rw [hg]; exact (below_size (by repeat (first | (with_reducible first | exact HB.out | apply below_alloc | apply pw_below_drewN | apply below_drew1 | refine below_set ?_ GE135.out) | exact HB.out))) : w.heap.size ≤ gb136)); have n5_ := Aside0.mk ((by rw [hg]; exact Nat.ne_of_lt (blk_lt (g := gb135) (o := .cells #[.int .u64 a0_0, .int .u64 a0_1, .int .u64 a0_2, .int .u64 a0_3, .int .i64 a0_4, .int .i64 a0_5] 36 (0, 0)) (by (with_reducible repeat (first | refine blk_drewN ?_ _ | refine blk_drew ?_ | refine blk_alloc ?_ _)); exact BK135.out)) : gb135 ≠ gb136)); have n6_ := Aside0.mk ((by rw [hg]; exact Nat.ne_of_gt (blk_lt (g := gb135) (o := .cells #[.int .u64 a0_0, .int .u64 a0_1, .int .u64 a0_2, .int .u64 a0_3, .int .i64 a0_4, .int .i64 a0_5] 36 (0, 0)) (by (with_reducible repeat (first | refine blk_drewN ?_ _ | refine blk_drew ?_ | refine blk_alloc ?_ _)); exact BK135.out)) : gb136 ≠ gb135)); clear BK135; clear HB; have BK135 := n0_; have HB := n1_; have BK136 := n2_; have GW136 := n3_; have GE136 := n4_; have NB135_136 := n5_; have NB136_135 := n6_; clear n0_ n1_ n2_ n3_ n4_ n5_ n6_; clear hb hbox hg; have hnb5 := NB135_136.out; have hnc5 := NB136_135.out; have hcz6_0 : w4.cell? ⟨gb135, 0, none⟩ = some (.int .u64 a0_0) := (blk_cell BK135.out 0).trans rfl; have hcz6_1 : w4.cell? ⟨gb135, 1, none⟩ = some (.int .u64 a0_1) := (blk_cell BK135.out 1).trans rfl; have hcz6_2 : w4.cell? ⟨gb135, 2, none⟩ = some (.int .u64 a0_2) := (blk_cell BK135.out 2).trans rfl; have hcz6_3 : w4.cell? ⟨gb135, 3, none⟩ = some (.int .u64 a0_3) := (blk_cell BK135.out 3).trans rfl; have hcz6_4 : w4.cell? ⟨gb135, 4, none⟩ = some (.int .i64 a0_4) := (blk_cell BK135.out 4).trans rfl; have hcz6_5 : w4.cell? ⟨gb135, 5, none⟩ = some (.int .i64 a0_5) := (blk_cell BK135.out 5).trans rfl; have hfz6_0 := blk_frozen BK135.out 0; have hfz6_1 := blk_frozen BK135.out 1; have hfz6_2 := blk_frozen BK135.out 2; have hfz6_3 := blk_frozen BK135.out 3; have hfz6_4 := blk_frozen BK135.out 4; have hfz6_5 := blk_frozen BK135.out 5) | ((with_reducible refine gate_callee (f := 19) rfl ?_); refine goesL_ (some 7) rfl rfl Try.func19 (by kernel_rfl) rfl #[.agg #[.int .u64 a0_0, .int .u64 a0_1, .int .u64 a0_2, .int .u64 a0_3, .int .i64 a0_4, .int .i64 a0_5]] rfl (by (try simp only [List.map_toArray, List.map_cons, List.map_nil]); first | done | rfl | (simp only [List.length_drop, List.length_take]; rfl)) ?_; (with_reducible refine (num_Refine.calls a0_0 a0_1 a0_2 a0_3 a0_4 a0_5 t137 t138 t139 t140 t141 t142 t143 _ A2.out).mono ?_); rintro e w7 ⟨rfl, hb⟩; refine ⟨_, rfl, ?_⟩; have n0_ := Aside0.mk (blk_below (g := gb135) (o := .cells #[.int .u64 a0_0, .int .u64 a0_1, .int .u64 a0_2, .int .u64 a0_3, .int .i64 a0_4, .int .i64 a0_5] 36 (0, 0)) (by (with_reducible repeat (first | refine blk_drewN ?_ _ | refine blk_drew ?_ | refine blk_alloc ?_ _)); exact BK135.out) hb); have n1_ := Aside0.mk (blk_below (g := gb136) (o := .cells #[.int .u64 0, .int .u64 0, .int .u64 0, .int .u64 0, .int .i64 0, .int .i64 0] 36 (0, 0)) (by (with_reducible repeat (first | refine blk_drewN ?_ _ | refine blk_drew ?_ | refine blk_alloc ?_ _)); exact BK136.out) hb); have n2_ := Aside0.mk (below_step (by repeat (first | (with_reducible first | exact HB.out | apply below_alloc | apply pw_below_drewN | apply below_drew1 | refine below_set ?_ GE135.out | refine below_set ?_ GE136.out) | exact HB.out)) hb); clear BK135; clear BK136; clear HB; have BK135 := n0_; have BK136 := n1_; have HB := n2_; clear n0_ n1_ n2_; (try clear hb); (try clear hb2); (try clear hk); (try clear hi)) | ((with_reducible refine gate_dst (N := 3) rfl ?_); refine box_event ?hg (N := 3) ?hd (cs := #[.int .u64 0, .int .u64 0, .int .u64 0, .int .u64 0, .int .i64 0, .int .i64 0]) (t := 36) ?hr ?_; (case hd => rfl); (case hg => rfl); (case hr => first | (go_simp; done) | (go_simp; rfl)); intro gb144 hg w8 hbox hb; have n0_ := Aside0.mk (blk_below (g := gb135) (o := .cells #[.int .u64 a0_0, .int .u64 a0_1, .int .u64 a0_2, .int .u64 a0_3, .int .i64 a0_4, .int .i64 a0_5] 36 (0, 0)) (by (with_reducible repeat (first | refine blk_drewN ?_ _ | refine blk_drew ?_ | refine blk_alloc ?_ _)); exact BK135.out) hb); have n1_ := Aside0.mk (blk_below (g := gb136) (o := .cells #[.int .u64 0, .int .u64 0, .int .u64 0, .int .u64 0, .int .i64 0, .int .i64 0] 36 (0, 0)) (by (with_reducible repeat (first | refine blk_drewN ?_ _ | refine blk_drew ?_ | refine blk_alloc ?_ _)); exact BK136.out) hb); have n2_ := Aside0.mk (below_step (by repeat (first | (with_reducible first | exact HB.out | apply below_alloc | apply pw_below_drewN | apply below_drew1 | refine below_set ?_ GE135.out | refine below_set ?_ GE136.out) | exact HB.out)) hb); have n3_ := Aside0.mk (hbox); have n4_ := Aside0.mk ((by rw [hg]; exact (below_size (by repeat (first | (with_reducible first | exact HB.out | apply below_alloc | apply pw_below_drewN | apply below_drew1 | refine below_set ?_ GE135.out | refine below_set ?_ GE136.out) | exact HB.out))) : w.heap.size ≤ gb144)); have n5_ := Aside0.mk ((by rw [hg]; exact (below_size (by repeat (first | (with_reducible first | exact HB.out | apply below_alloc | apply pw_below_drewN | apply below_drew1 | refine below_set ?_ GE135.out | refine below_set ?_ GE136.out) | exact HB.out))) : w.heap.size ≤ gb144)); have n6_ := Aside0.mk ((by rw [hg]; exact Nat.ne_of_lt (blk_lt (g := gb135) (o := .cells #[.int .u64 a0_0, .int .u64 a0_1, .int .u64 a0_2, .int .u64 a0_3, .int .i64 a0_4, .int .i64 a0_5] 36 (0, 0)) (by (with_reducible repeat (first | refine blk_drewN ?_ _ | refine blk_drew ?_ | refine blk_alloc ?_ _)); exact BK135.out)) : gb135 ≠ gb144)); have n7_ := Aside0.mk ((by rw [hg]; exact Nat.ne_of_gt (blk_lt (g := gb135) (o := .cells #[.int .u64 a0_0, .int .u64 a0_1, .int .u64 a0_2, .int .u64 a0_3, .int .i64 a0_4, .int .i64 a0_5] 36 (0, 0)) (by (with_reducible repeat (first | refine blk_drewN ?_ _ | refine blk_drew ?_ | refine blk_alloc ?_ _)); exact BK135.out)) : gb144 ≠ gb135)); have n8_ := Aside0.mk ((by rw [hg]; exact Nat.ne_of_lt (blk_lt (g := gb136) (o := .cells #[.int .u64 0, .int .u64 0, .int .u64 0, .int .u64 0, .int .i64 0, .int .i64 0] 36 (0, 0)) (by (with_reducible repeat (first | refine blk_drewN ?_ _ | refine blk_drew ?_ | refine blk_alloc ?_ _)); exact BK136.out)) : gb136 ≠ gb144)); have n9_ := Aside0.mk ((by rw [hg]; exact Nat.ne_of_gt (blk_lt (g := gb136) (o := .cells #[.int .u64 0, .int .u64 0, .int .u64 0, .int .u64 0, .int .i64 0, .int .i64 0] 36 (0, 0)) (by (with_reducible repeat (first | refine blk_drewN ?_ _ | refine blk_drew ?_ | refine blk_alloc ?_ _)); exact BK136.out)) : gb144 ≠ gb136)); clear BK135; clear BK136; clear HB; have BK135 := n0_; have BK136 := n1_; have HB := n2_; have BK144 := n3_; have GW144 := n4_; have GE144 := n5_; have NB135_144 := n6_; have NB144_135 := n7_; have NB136_144 := n8_; have NB144_136 := n9_; clear n0_ n1_ n2_ n3_ n4_ n5_ n6_ n7_ n8_ n9_; clear hb hbox hg; have hnb9 := NB144_135.out; have hnc9 := NB135_144.out; have hnb10 := NB144_136.out; have hnc10 := NB136_144.out; have hcz11_0 : w8.cell? ⟨gb144, 0, none⟩ = some (.int .u64 0) := (blk_cell BK144.out 0).trans rfl; have hcz11_1 : w8.cell? ⟨gb144, 1, none⟩ = some (.int .u64 0) := (blk_cell BK144.out 1).trans rfl; have hcz11_2 : w8.cell? ⟨gb144, 2, none⟩ = some (.int .u64 0) := (blk_cell BK144.out 2).trans rfl; have hcz11_3 : w8.cell? ⟨gb144, 3, none⟩ = some (.int .u64 0) := (blk_cell BK144.out 3).trans rfl; have hcz11_4 : w8.cell? ⟨gb144, 4, none⟩ = some (.int .i64 0) := (blk_cell BK144.out 4).trans rfl; have hcz11_5 : w8.cell? ⟨gb144, 5, none⟩ = some (.int .i64 0) := (blk_cell BK144.out 5).trans rfl; have hfz11_0 := blk_frozen BK144.out 0; have hfz11_1 := blk_frozen BK144.out 1; have hfz11_2 := blk_frozen BK144.out 2; have hfz11_3 := blk_frozen BK144.out 3; have hfz11_4 := blk_frozen BK144.out 4; have hfz11_5 := blk_frozen BK144.out 5; have hcz12_0 : w8.cell? ⟨gb136, 0, none⟩ = some (.int .u64 0) := (blk_cell BK136.out 0).trans rfl; have hcz12_1 : w8.cell? ⟨gb136, 1, none⟩ = some (.int .u64 0) := (blk_cell BK136.out 1).trans rfl; have hcz12_2 : w8.cell? ⟨gb136, 2, none⟩ = some (.int .u64 0) := (blk_cell BK136.out 2).trans rfl; have hcz12_3 : w8.cell? ⟨gb136, 3, none⟩ = some (.int .u64 0) := (blk_cell BK136.out 3).trans rfl; have hcz12_4 : w8.cell? ⟨gb136, 4, none⟩ = some (.int .i64 0) := (blk_cell BK136.out 4).trans rfl; have hcz12_5 : w8.cell? ⟨gb136, 5, none⟩ = some (.int .i64 0) := (blk_cell BK136.out 5).trans rfl; have hfz12_0 := blk_frozen BK136.out 0; have hfz12_1 := blk_frozen BK136.out 1; have hfz12_2 := blk_frozen BK136.out 2; have hfz12_3 := blk_frozen BK136.out 3; have hfz12_4 := blk_frozen BK136.out 4; have hfz12_5 := blk_frozen BK136.out 5))
  refine bodyPost_ret (results_cell_row rfl _ _ gb136 36 #[.int .u64 t137, .int .u64 t138, .int .u64 t139, .int .u64 t140, .int .i64 t141, .int .i64 t142] (0, 0) _ rfl (by (with_reducible repeat (first | refine blk_drewN ?_ _ | refine blk_drew ?_ | refine blk_alloc ?_ _)); refine blk_put (cs := #[.int .u64 t137, .int .u64 t138, .int .u64 t139, .int .u64 t140, .int .i64 t141, .int .i64 0]) ?_ 5 _ rfl; refine blk_put (cs := #[.int .u64 t137, .int .u64 t138, .int .u64 t139, .int .u64 t140, .int .i64 0, .int .i64 0]) ?_ 4 _ rfl; refine blk_put (cs := #[.int .u64 t137, .int .u64 t138, .int .u64 t139, .int .u64 0, .int .i64 0, .int .i64 0]) ?_ 3 _ rfl; refine blk_put (cs := #[.int .u64 t137, .int .u64 t138, .int .u64 0, .int .u64 0, .int .i64 0, .int .i64 0]) ?_ 2 _ rfl; refine blk_put (cs := #[.int .u64 t137, .int .u64 0, .int .u64 0, .int .u64 0, .int .i64 0, .int .i64 0]) ?_ 1 _ rfl; refine blk_put (cs := #[.int .u64 0, .int .u64 0, .int .u64 0, .int .u64 0, .int .i64 0, .int .i64 0]) ?_ 0 _ rfl; refine blk_far ?_ NB136_144.out _; refine blk_far ?_ NB136_144.out _; refine blk_far ?_ NB136_144.out _; refine blk_far ?_ NB136_144.out _; refine blk_far ?_ NB136_144.out _; refine blk_far ?_ NB136_144.out _; (with_reducible repeat (first | refine blk_drewN ?_ _ | refine blk_drew ?_ | refine blk_alloc ?_ _)); exact BK136.out) Try.underlying36 rfl (by kernel_rfl)) rfl ?_
  exact ⟨by first | rfl | (simp [errW_none, errW_some] <;> rfl) | (simp [*, errW_none, errW_some] <;> rfl), by repeat (first | (with_reducible first | exact HB.out | apply below_alloc | apply pw_below_drewN | apply below_drew1 | refine below_set ?_ GE135.out | refine below_set ?_ GE136.out | refine below_set ?_ GE144.out) | exact HB.out)⟩

/-! ### num_Cut: function 23 -/
def num_Cut.j0 : Nat → Int → Bool → Int → Int → Int → Int → Int → Int → Option (Int × Int × Int × Int × Int × Int)
  | 0, _, _, _, _, _, _, _, _ => none
  | k + 1, x1, x12, x146000, x146001, x146002, x146003, x146004, x146005 => if x12 = true then (some (x146000, x146001, x146002, x146003, x146004, x146005)) else ((num_All.f).bind fun bt148 => ((tnum_Cut.f x146000 x146001 x1).bind fun bt155 => ((words_Low.f (wrap64 (8 * x1))).bind fun t157 => ((num_Low.f x146000 x146001 x146002 x146003 x146004 x146005 x1).bind fun t158 => (if t158 = true then ((num_orAll.f bt155.1 bt155.2 x146002 x146003 bt148.2.2.2.2.1 bt148.2.2.2.2.2).bind fun bt159 => (some (bt159.1, bt159.2.1, bt159.2.2.1, bt159.2.2.2.1, bt159.2.2.2.2.1, bt159.2.2.2.2.2))) else ((num_orAll.f bt155.1 bt155.2 bt148.2.2.1 t157 bt148.2.2.2.2.1 bt148.2.2.2.2.2).bind fun bt165 => (some (bt165.1, bt165.2.1, bt165.2.2.1, bt165.2.2.2.1, bt165.2.2.2.2.1, bt165.2.2.2.2.2))))))))
def num_Cut.f (k : Nat) (a0_0 : Int) (a0_1 : Int) (a0_2 : Int) (a0_3 : Int) (a0_4 : Int) (a0_5 : Int) (a1 : Int) : Option (Int × Int × Int × Int × Int × Int) := if a1 = 8 then (num_Cut.j0 k a1 true a0_0 a0_1 a0_2 a0_3 a0_4 a0_5) else ((words_IsSize.f a1).bind fun t147 => (num_Cut.j0 k a1 (!t147) a0_0 a0_1 a0_2 a0_3 a0_4 a0_5))
theorem num_Cut.mono_l : ∀ k, (∀ y0 y1 y2 y3 y4 y5 y6 y7, LeO (num_Cut.j0 k y0 y1 y2 y3 y4 y5 y6 y7) (num_Cut.j0 (k + 1) y0 y1 y2 y3 y4 y5 y6 y7))
  | 0 => fun _ _ _ _ _ _ _ _ r h => by simp [num_Cut.j0] at h
  | k + 1 => by
    have ih0 := num_Cut.mono_l k
    · intro y0 y1 y2 y3 y4 y5 y6 y7
      unfold num_Cut.j0
      repeat' first
      | (with_reducible exact ih0 _ _ _ _ _ _ _ _)
      | (with_reducible exact LeO.refl _)
      | (with_reducible exact LeO.none _)
      | (with_reducible refine LeO.ite ?_ ?_)
      | (with_reducible refine LeO.bind ?_ (fun _ => ?_))
      | exact ih0 _ _ _ _ _ _ _ _
      | exact LeO.none _
      | refine LeO.ite ?_ ?_
      | refine LeO.bind ?_ (fun _ => ?_)
theorem num_Cut.mono : ∀ a0 a1 a2 a3 a4 a5 a6 k, LeO (num_Cut.f k a0 a1 a2 a3 a4 a5 a6) (num_Cut.f (k + 1) a0 a1 a2 a3 a4 a5 a6) := by
  intro a0 a1 a2 a3 a4 a5 a6 k
  have ih0 := num_Cut.mono_l k
  unfold num_Cut.f
  repeat' first
      | (with_reducible exact ih0 _ _ _ _ _ _ _ _)
      | (with_reducible exact LeO.refl _)
      | (with_reducible exact LeO.none _)
      | (with_reducible refine LeO.ite ?_ ?_)
      | (with_reducible refine LeO.bind ?_ (fun _ => ?_))
      | exact ih0 _ _ _ _ _ _ _ _
      | exact LeO.none _
      | refine LeO.ite ?_ ?_
      | refine LeO.bind ?_ (fun _ => ?_)
def num_Cut.T6 : Bool × List (List Nat × List Nat) := (true, [([], []), ([0], [0]), ([], []), ([2], [2]), ([0, 1], []), ([4, 1, 0, 1], [1, 4]), ([0, 1, 2, 3, 4, 5], []), ([6, 3, 5, 0, 1, 2, 3, 4, 5], [3, 6])])
def num_Cut.B6 : List Nat := [0, 1, 0, 4, 3, 19, 63, 127]
theorem num_Cut.tab6 : rtab .any (opsOf Try.f23 6) = num_Cut.T6 := by kernel_rfl
theorem num_Cut.bits6 : waitsOk num_Cut.T6.2 num_Cut.B6 = true := by kernel_rfl
set_option maxHeartbeats 8000000 in
set_option maxRecDepth 100000 in
theorem num_Cut.calls (k : Nat) (a0_0 : Int) (a0_1 : Int) (a0_2 : Int) (a0_3 : Int) (a0_4 : Int) (a0_5 : Int) (a1 : Int) (r1 : Int) (r2 : Int) (r3 : Int) (r4 : Int) (r5 : Int) (r6 : Int) (w : World) (h : num_Cut.f k a0_0 a0_1 a0_2 a0_3 a0_4 a0_5 a1 = some (r1, r2, r3, r4, r5, r6)) :
    Calls Try.prog 23 #[.agg #[.int .u64 a0_0, .int .u64 a0_1, .int .u64 a0_2, .int .u64 a0_3, .int .i64 a0_4, .int .i64 a0_5], .int .i64 a1] w fun e w' => e = .returned (.agg #[.int .u64 r1, .int .u64 r2, .int .u64 r3, .int .u64 r4, .int .i64 r5, .int .i64 r6]) ∧ Below w.heap.size w w' := by
  have hu36 := Try.underlying36
  have hu34 := Try.underlying34
  have HB := Aside0.mk (Below.refl w.heap.size w)
  have H : (if a1 = 8 then (num_Cut.j0 k a1 true a0_0 a0_1 a0_2 a0_3 a0_4 a0_5) else ((words_IsSize.f a1).bind fun t147 => (num_Cut.j0 k a1 (!t147) a0_0 a0_1 a0_2 a0_3 a0_4 a0_5))) = some (r1, r2, r3, r4, r5, r6) := h
  clear h
  have HC3 := Aside0.mk H
  clear H
  go_enter Try.func23, Try.ntmps23
  go_upto_region 1 with (first | ((with_reducible refine gate_dst (N := 2) rfl ?_); refine box_event ?hg (N := 2) ?hd (cs := #[.int .u64 a0_0, .int .u64 a0_1, .int .u64 a0_2, .int .u64 a0_3, .int .i64 a0_4, .int .i64 a0_5]) (t := 36) ?hr ?_; (case hd => rfl); (case hg => rfl); (case hr => first | (go_simp; done) | (go_simp; rfl)); intro gb145 hg w4 hbox hb; have n0_ := Aside0.mk (below_step (by repeat (first | (with_reducible first | exact HB.out | apply below_alloc | apply pw_below_drewN | apply below_drew1) | exact HB.out)) hb); have n1_ := Aside0.mk (hbox); have n2_ := Aside0.mk ((by rw [hg]; exact (below_size (by repeat (first | (with_reducible first | exact HB.out | apply below_alloc | apply pw_below_drewN | apply below_drew1) | exact HB.out))) : w.heap.size ≤ gb145)); have n3_ := Aside0.mk ((by rw [hg]; exact (below_size (by repeat (first | (with_reducible first | exact HB.out | apply below_alloc | apply pw_below_drewN | apply below_drew1) | exact HB.out))) : w.heap.size ≤ gb145)); clear HB; have HB := n0_; have BK145 := n1_; have GW145 := n2_; have GE145 := n3_; clear n0_ n1_ n2_ n3_; clear hb hbox hg) | ((with_reducible refine gate_dst (N := 4) rfl ?_); refine box_event ?hg (N := 4) ?hd (cs := #[.int .u64 0, .int .u64 0, .int .u64 0, .int .u64 0, .int .i64 0, .int .i64 0]) (t := 36) ?hr ?_; (case hd => rfl); (case hg => rfl); (case hr => first | (go_simp; done) | (go_simp; rfl)); intro gb146 hg w5 hbox hb; have n0_ := Aside0.mk (blk_below (g := gb145) (o := .cells #[.int .u64 a0_0, .int .u64 a0_1, .int .u64 a0_2, .int .u64 a0_3, .int .i64 a0_4, .int .i64 a0_5] 36 (0, 0)) (by (with_reducible repeat (first | refine blk_drewN ?_ _ | refine blk_drew ?_ | refine blk_alloc ?_ _)); exact BK145.out) hb); have n1_ := Aside0.mk (below_step (by repeat (first | (with_reducible first | exact HB.out | apply below_alloc | apply pw_below_drewN | apply below_drew1 | refine below_set ?_ GE145.out) | exact HB.out)) hb); have n2_ := Aside0.mk (hbox); have n3_ := Aside0.mk ((by rw [hg]; exact (below_size (by repeat (first | (with_reducible first | exact HB.out | apply below_alloc | apply pw_below_drewN | apply below_drew1 | refine below_set ?_ GE145.out) | exact HB.out))) : w.heap.size ≤ gb146)); have n4_ := Aside0.mk ((by rw [hg]; exact (below_size (by repeat (first | (with_reducible first | exact HB.out | apply below_alloc | apply pw_below_drewN | apply below_drew1 | refine below_set ?_ GE145.out) | exact HB.out))) : w.heap.size ≤ gb146)); have n5_ := Aside0.mk ((by rw [hg]; exact Nat.ne_of_lt (blk_lt (g := gb145) (o := .cells #[.int .u64 a0_0, .int .u64 a0_1, .int .u64 a0_2, .int .u64 a0_3, .int .i64 a0_4, .int .i64 a0_5] 36 (0, 0)) (by (with_reducible repeat (first | refine blk_drewN ?_ _ | refine blk_drew ?_ | refine blk_alloc ?_ _)); exact BK145.out)) : gb145 ≠ gb146)); have n6_ := Aside0.mk ((by rw [hg]; exact Nat.ne_of_gt (blk_lt (g := gb145) (o := .cells #[.int .u64 a0_0, .int .u64 a0_1, .int .u64 a0_2, .int .u64 a0_3, .int .i64 a0_4, .int .i64 a0_5] 36 (0, 0)) (by (with_reducible repeat (first | refine blk_drewN ?_ _ | refine blk_drew ?_ | refine blk_alloc ?_ _)); exact BK145.out)) : gb146 ≠ gb145)); clear BK145; clear HB; have BK145 := n0_; have HB := n1_; have BK146 := n2_; have GW146 := n3_; have GE146 := n4_; have NB145_146 := n5_; have NB146_145 := n6_; clear n0_ n1_ n2_ n3_ n4_ n5_ n6_; clear hb hbox hg))
  (try simp only [Act.put, List.setIfInBounds_toArray, List.set_cons_zero, List.set_cons_succ])
  go_cut [12] (fun v12 wc => ∃ (kq : Nat) (x12_2 : Bool), v12 = .bool x12_2 ∧ Aside0 (num_Cut.j0 kq a1 x12_2 a0_0 a0_1 a0_2 a0_3 a0_4 a0_5 = some (r1, r2, r3, r4, r5, r6)) ∧ Aside0 (kq ≤ k) ∧ Aside0 (wc.heap[gb145]? = some (.cells #[.int .u64 a0_0, .int .u64 a0_1, .int .u64 a0_2, .int .u64 a0_3, .int .i64 a0_4, .int .i64 a0_5] 36 (0, 0))) ∧ Aside0 (wc.heap[gb146]? = some (.cells #[.int .u64 0, .int .u64 0, .int .u64 0, .int .u64 0, .int .i64 0, .int .i64 0] 36 (0, 0))) ∧ Aside0 (Below w.heap.size w wc))
  case first =>
    have H := HC3.out
    clear HC3
    by_cases c6 : a1 = 8
    · rw [if_pos c6] at H
      have c6b0 : (a1 == 8) = true := beq_iff_eq.mpr c6
      have c6b1 : (a1 != 8) = false := bne_eq_false_iff_eq.mpr c6
      clear c6
      (first | rw [c6b0] | (simp only [i64_w, i32_w]; rw [c6b0]) | skip)
      have H' := Aside0.mk H
      clear H
      go_wp2
      go_meet
      case rel => exact ⟨_, (true), (by first | rfl | (simp; done) | (simp [*]; done)), H', ⟨by first | omega | exact Nat.le_refl _⟩, ⟨by (with_reducible repeat (first | refine blk_drewN ?_ _ | refine blk_drew ?_ | refine blk_alloc ?_ _)); exact BK145.out⟩, ⟨by (with_reducible repeat (first | refine blk_drewN ?_ _ | refine blk_drew ?_ | refine blk_alloc ?_ _)); exact BK146.out⟩, ⟨by repeat (first | (with_reducible first | exact HB.out | apply below_alloc | apply pw_below_drewN | apply below_drew1 | refine below_set ?_ GE145.out | refine below_set ?_ GE146.out) | exact HB.out)⟩⟩
    · rw [if_neg c6] at H
      have c6b0 : (a1 == 8) = false := beq_eq_false_iff_ne.mpr c6
      have c6b1 : (a1 != 8) = true := bne_iff_ne.mpr c6
      (first | rw [c6b0] | (simp only [i64_w, i32_w]; rw [c6b0]) | skip)
      replace H := Option.bind_eq_some_iff.mp H
      obtain ⟨t147, A70, H⟩ := H
      replace H : (num_Cut.j0 k a1 (!t147) a0_0 a0_1 a0_2 a0_3 a0_4 a0_5) = some (r1, r2, r3, r4, r5, r6) := H
      have A7 := Aside0.mk A70
      clear A70
      have H' := Aside0.mk H
      clear H
      go_wp2_with (first | (go_at_call 59; (with_reducible refine (words_IsSize.calls a1 t147 _ A7.out).mono ?_); rintro e w' ⟨rfl, ⟨nd, rfl⟩⟩))
      go_meet
      case rel => exact ⟨_, (!t147), (by first | rfl | (simp; done) | (simp [*]; done)), H', ⟨by first | omega | exact Nat.le_refl _⟩, ⟨by (with_reducible repeat (first | refine blk_drewN ?_ _ | refine blk_drew ?_ | refine blk_alloc ?_ _)); exact BK145.out⟩, ⟨by (with_reducible repeat (first | refine blk_drewN ?_ _ | refine blk_drew ?_ | refine blk_alloc ?_ _)); exact BK146.out⟩, ⟨by repeat (first | (with_reducible first | exact HB.out | apply below_alloc | apply pw_below_drewN | apply below_drew1 | refine below_set ?_ GE145.out | refine below_set ?_ GE146.out) | exact HB.out)⟩⟩
  case rest =>
    clear HC3
    try clear c2
    try clear p2
    try clear c6
    try clear c6b0
    try clear c6b1
    obtain ⟨kq, x12_2, rfl, HA, HJ2, BK145, BK146, HB⟩ := hcut
    cases kq with
    | zero => exact absurd HA.out (by simp [num_Cut.j0])
    | succ kj2 =>
      have H := HA.out
      clear HA
      simp only [num_Cut.j0] at H
      by_cases c8 : x12_2 = true
      · subst c8
        have H1 : (some (a0_0, a0_1, a0_2, a0_3, a0_4, a0_5)) = some (r1, r2, r3, r4, r5, r6) := by rw [if_pos rfl] at H; exact H
        clear H
        have H := H1
        clear H1
        simp only [Option.some.injEq, Prod.mk.injEq] at H
        obtain ⟨rfl, rfl, rfl, rfl, rfl, rfl⟩ := H
        have hnb9 := NB145_146.out
        have hnc9 := NB146_145.out
        have hcz10_0 : wc.cell? ⟨gb145, 0, none⟩ = some (.int .u64 a0_0) := (blk_cell BK145.out 0).trans rfl
        have hcz10_1 : wc.cell? ⟨gb145, 1, none⟩ = some (.int .u64 a0_1) := (blk_cell BK145.out 1).trans rfl
        have hcz10_2 : wc.cell? ⟨gb145, 2, none⟩ = some (.int .u64 a0_2) := (blk_cell BK145.out 2).trans rfl
        have hcz10_3 : wc.cell? ⟨gb145, 3, none⟩ = some (.int .u64 a0_3) := (blk_cell BK145.out 3).trans rfl
        have hcz10_4 : wc.cell? ⟨gb145, 4, none⟩ = some (.int .i64 a0_4) := (blk_cell BK145.out 4).trans rfl
        have hcz10_5 : wc.cell? ⟨gb145, 5, none⟩ = some (.int .i64 a0_5) := (blk_cell BK145.out 5).trans rfl
        have hfz10_0 := blk_frozen BK145.out 0
        have hfz10_1 := blk_frozen BK145.out 1
        have hfz10_2 := blk_frozen BK145.out 2
        have hfz10_3 := blk_frozen BK145.out 3
        have hfz10_4 := blk_frozen BK145.out 4
        have hfz10_5 := blk_frozen BK145.out 5
        have hcz11_0 : wc.cell? ⟨gb146, 0, none⟩ = some (.int .u64 0) := (blk_cell BK146.out 0).trans rfl
        have hcz11_1 : wc.cell? ⟨gb146, 1, none⟩ = some (.int .u64 0) := (blk_cell BK146.out 1).trans rfl
        have hcz11_2 : wc.cell? ⟨gb146, 2, none⟩ = some (.int .u64 0) := (blk_cell BK146.out 2).trans rfl
        have hcz11_3 : wc.cell? ⟨gb146, 3, none⟩ = some (.int .u64 0) := (blk_cell BK146.out 3).trans rfl
        have hcz11_4 : wc.cell? ⟨gb146, 4, none⟩ = some (.int .i64 0) := (blk_cell BK146.out 4).trans rfl
        have hcz11_5 : wc.cell? ⟨gb146, 5, none⟩ = some (.int .i64 0) := (blk_cell BK146.out 5).trans rfl
        have hfz11_0 := blk_frozen BK146.out 0
        have hfz11_1 := blk_frozen BK146.out 1
        have hfz11_2 := blk_frozen BK146.out 2
        have hfz11_3 := blk_frozen BK146.out 3
        have hfz11_4 := blk_frozen BK146.out 4
        have hfz11_5 := blk_frozen BK146.out 5
        go_wp2
        refine bodyPost_ret (results_cell_row rfl _ _ gb146 36 #[.int .u64 a0_0, .int .u64 a0_1, .int .u64 a0_2, .int .u64 a0_3, .int .i64 a0_4, .int .i64 a0_5] (0, 0) _ rfl (by (with_reducible repeat (first | refine blk_drewN ?_ _ | refine blk_drew ?_ | refine blk_alloc ?_ _)); refine blk_put (cs := #[.int .u64 a0_0, .int .u64 a0_1, .int .u64 a0_2, .int .u64 a0_3, .int .i64 a0_4, .int .i64 0]) ?_ 5 _ rfl; refine blk_put (cs := #[.int .u64 a0_0, .int .u64 a0_1, .int .u64 a0_2, .int .u64 a0_3, .int .i64 0, .int .i64 0]) ?_ 4 _ rfl; refine blk_put (cs := #[.int .u64 a0_0, .int .u64 a0_1, .int .u64 a0_2, .int .u64 0, .int .i64 0, .int .i64 0]) ?_ 3 _ rfl; refine blk_put (cs := #[.int .u64 a0_0, .int .u64 a0_1, .int .u64 0, .int .u64 0, .int .i64 0, .int .i64 0]) ?_ 2 _ rfl; refine blk_put (cs := #[.int .u64 a0_0, .int .u64 0, .int .u64 0, .int .u64 0, .int .i64 0, .int .i64 0]) ?_ 1 _ rfl; refine blk_put (cs := #[.int .u64 0, .int .u64 0, .int .u64 0, .int .u64 0, .int .i64 0, .int .i64 0]) ?_ 0 _ rfl; (with_reducible repeat (first | refine blk_drewN ?_ _ | refine blk_drew ?_ | refine blk_alloc ?_ _)); exact BK146.out) Try.underlying36 rfl (by kernel_rfl)) rfl ?_
        exact ⟨by first | rfl | (simp [errW_none, errW_some] <;> rfl) | (simp [*, errW_none, errW_some] <;> rfl), by repeat (first | (with_reducible first | exact HB.out | apply below_alloc | apply pw_below_drewN | apply below_drew1 | refine below_set ?_ GE145.out | refine below_set ?_ GE146.out) | exact HB.out)⟩
      · replace c8 := Bool.eq_false_iff.mpr c8
        subst c8
        have H1 : ((num_All.f).bind fun bt148 => ((tnum_Cut.f a0_0 a0_1 a1).bind fun bt155 => ((words_Low.f (wrap64 (8 * a1))).bind fun t157 => ((num_Low.f a0_0 a0_1 a0_2 a0_3 a0_4 a0_5 a1).bind fun t158 => (if t158 = true then ((num_orAll.f bt155.1 bt155.2 a0_2 a0_3 bt148.2.2.2.2.1 bt148.2.2.2.2.2).bind fun bt159 => (some (bt159.1, bt159.2.1, bt159.2.2.1, bt159.2.2.2.1, bt159.2.2.2.2.1, bt159.2.2.2.2.2))) else ((num_orAll.f bt155.1 bt155.2 bt148.2.2.1 t157 bt148.2.2.2.2.1 bt148.2.2.2.2.2).bind fun bt165 => (some (bt165.1, bt165.2.1, bt165.2.2.1, bt165.2.2.2.1, bt165.2.2.2.2.1, bt165.2.2.2.2.2)))))))) = some (r1, r2, r3, r4, r5, r6) := by rw [if_neg (show ¬ (false = true) by decide)] at H; exact H
        clear H
        have H := H1
        clear H1
        replace H := Option.bind_eq_some_iff.mp H
        obtain ⟨⟨t148, t149, t150, t151, t152, t153⟩, A120, H⟩ := H
        replace H : ((tnum_Cut.f a0_0 a0_1 a1).bind fun bt155 => ((words_Low.f (wrap64 (8 * a1))).bind fun t157 => ((num_Low.f a0_0 a0_1 a0_2 a0_3 a0_4 a0_5 a1).bind fun t158 => (if t158 = true then ((num_orAll.f bt155.1 bt155.2 a0_2 a0_3 t152 t153).bind fun bt159 => (some (bt159.1, bt159.2.1, bt159.2.2.1, bt159.2.2.2.1, bt159.2.2.2.2.1, bt159.2.2.2.2.2))) else ((num_orAll.f bt155.1 bt155.2 t150 t157 t152 t153).bind fun bt165 => (some (bt165.1, bt165.2.1, bt165.2.2.1, bt165.2.2.2.1, bt165.2.2.2.2.1, bt165.2.2.2.2.2))))))) = some (r1, r2, r3, r4, r5, r6) := H
        have A12 := Aside0.mk A120
        clear A120
        replace H := Option.bind_eq_some_iff.mp H
        obtain ⟨⟨t155, t156⟩, A130, H⟩ := H
        replace H : ((words_Low.f (wrap64 (8 * a1))).bind fun t157 => ((num_Low.f a0_0 a0_1 a0_2 a0_3 a0_4 a0_5 a1).bind fun t158 => (if t158 = true then ((num_orAll.f t155 t156 a0_2 a0_3 t152 t153).bind fun bt159 => (some (bt159.1, bt159.2.1, bt159.2.2.1, bt159.2.2.2.1, bt159.2.2.2.2.1, bt159.2.2.2.2.2))) else ((num_orAll.f t155 t156 t150 t157 t152 t153).bind fun bt165 => (some (bt165.1, bt165.2.1, bt165.2.2.1, bt165.2.2.2.1, bt165.2.2.2.2.1, bt165.2.2.2.2.2)))))) = some (r1, r2, r3, r4, r5, r6) := H
        have A13 := Aside0.mk A130
        clear A130
        replace H := Option.bind_eq_some_iff.mp H
        obtain ⟨t157, A140, H⟩ := H
        replace H : ((num_Low.f a0_0 a0_1 a0_2 a0_3 a0_4 a0_5 a1).bind fun t158 => (if t158 = true then ((num_orAll.f t155 t156 a0_2 a0_3 t152 t153).bind fun bt159 => (some (bt159.1, bt159.2.1, bt159.2.2.1, bt159.2.2.2.1, bt159.2.2.2.2.1, bt159.2.2.2.2.2))) else ((num_orAll.f t155 t156 t150 t157 t152 t153).bind fun bt165 => (some (bt165.1, bt165.2.1, bt165.2.2.1, bt165.2.2.2.1, bt165.2.2.2.2.1, bt165.2.2.2.2.2))))) = some (r1, r2, r3, r4, r5, r6) := H
        have A14 := Aside0.mk A140
        clear A140
        replace H := Option.bind_eq_some_iff.mp H
        obtain ⟨t158, A150, H⟩ := H
        replace H : (if t158 = true then ((num_orAll.f t155 t156 a0_2 a0_3 t152 t153).bind fun bt159 => (some (bt159.1, bt159.2.1, bt159.2.2.1, bt159.2.2.2.1, bt159.2.2.2.2.1, bt159.2.2.2.2.2))) else ((num_orAll.f t155 t156 t150 t157 t152 t153).bind fun bt165 => (some (bt165.1, bt165.2.1, bt165.2.2.1, bt165.2.2.2.1, bt165.2.2.2.2.1, bt165.2.2.2.2.2)))) = some (r1, r2, r3, r4, r5, r6) := H
        have A15 := Aside0.mk A150
        clear A150
        by_cases c16 : t158 = true
        · subst c16
          have H1 : ((num_orAll.f t155 t156 a0_2 a0_3 t152 t153).bind fun bt159 => (some (bt159.1, bt159.2.1, bt159.2.2.1, bt159.2.2.2.1, bt159.2.2.2.2.1, bt159.2.2.2.2.2))) = some (r1, r2, r3, r4, r5, r6) := by rw [if_pos rfl] at H; exact H
          clear H
          have H := H1
          clear H1
          replace H := Option.bind_eq_some_iff.mp H
          obtain ⟨⟨t159, t160, t161, t162, t163, t164⟩, A170, H⟩ := H
          replace H : (some (t159, t160, t161, t162, t163, t164)) = some (r1, r2, r3, r4, r5, r6) := H
          have A17 := Aside0.mk A170
          clear A170
          simp only [Option.some.injEq, Prod.mk.injEq] at H
          obtain ⟨rfl, rfl, rfl, rfl, rfl, rfl⟩ := H
          try go_wp2_with (first | ((with_reducible refine gate_callee (f := 29) rfl ?_); refine goesL_ (some 14) rfl rfl Try.func29 (by kernel_rfl) rfl #[] rfl (by (try simp only [List.map_toArray, List.map_cons, List.map_nil]); first | done | rfl | (simp only [List.length_drop, List.length_take]; rfl)) ?_; (with_reducible refine (num_All.calls  t148 t149 t150 t151 t152 t153 _ A12.out).mono ?_); rintro e w18 ⟨rfl, hb⟩; refine ⟨_, rfl, ?_⟩; have n0_ := Aside0.mk (blk_below (g := gb145) (o := .cells #[.int .u64 a0_0, .int .u64 a0_1, .int .u64 a0_2, .int .u64 a0_3, .int .i64 a0_4, .int .i64 a0_5] 36 (0, 0)) (by (with_reducible repeat (first | refine blk_drewN ?_ _ | refine blk_drew ?_ | refine blk_alloc ?_ _)); exact BK145.out) hb); have n1_ := Aside0.mk (blk_below (g := gb146) (o := .cells #[.int .u64 0, .int .u64 0, .int .u64 0, .int .u64 0, .int .i64 0, .int .i64 0] 36 (0, 0)) (by (with_reducible repeat (first | refine blk_drewN ?_ _ | refine blk_drew ?_ | refine blk_alloc ?_ _)); exact BK146.out) hb); have n2_ := Aside0.mk (below_step (by repeat (first | (with_reducible first | exact HB.out | apply below_alloc | apply pw_below_drewN | apply below_drew1 | refine below_set ?_ GE145.out | refine below_set ?_ GE146.out) | exact HB.out)) hb); clear BK145; clear BK146; clear HB; have BK145 := n0_; have BK146 := n1_; have HB := n2_; clear n0_ n1_ n2_; (try clear hb); (try clear hb2); (try clear hk); (try clear hi)) | ((with_reducible refine gate_dst (N := 5) rfl ?_); refine box_event ?hg (N := 5) ?hd (cs := #[.int .u64 0, .int .u64 0, .int .u64 0, .int .u64 0, .int .i64 0, .int .i64 0]) (t := 36) ?hr ?_; (case hd => rfl); (case hg => rfl); (case hr => first | (go_simp; done) | (go_simp; rfl)); intro gb154 hg w19 hbox hb; have n0_ := Aside0.mk (blk_below (g := gb145) (o := .cells #[.int .u64 a0_0, .int .u64 a0_1, .int .u64 a0_2, .int .u64 a0_3, .int .i64 a0_4, .int .i64 a0_5] 36 (0, 0)) (by (with_reducible repeat (first | refine blk_drewN ?_ _ | refine blk_drew ?_ | refine blk_alloc ?_ _)); exact BK145.out) hb); have n1_ := Aside0.mk (blk_below (g := gb146) (o := .cells #[.int .u64 0, .int .u64 0, .int .u64 0, .int .u64 0, .int .i64 0, .int .i64 0] 36 (0, 0)) (by (with_reducible repeat (first | refine blk_drewN ?_ _ | refine blk_drew ?_ | refine blk_alloc ?_ _)); exact BK146.out) hb); have n2_ := Aside0.mk (below_step (by repeat (first | (with_reducible first | exact HB.out | apply below_alloc | apply pw_below_drewN | apply below_drew1 | refine below_set ?_ GE145.out | refine below_set ?_ GE146.out) | exact HB.out)) hb); have n3_ := Aside0.mk (hbox); have n4_ := Aside0.mk ((by rw [hg]; exact (below_size (by repeat (first | (with_reducible first | exact HB.out | apply below_alloc | apply pw_below_drewN | apply below_drew1 | refine below_set ?_ GE145.out | refine below_set ?_ GE146.out) | exact HB.out))) : w.heap.size ≤ gb154)); have n5_ := Aside0.mk ((by rw [hg]; exact (below_size (by repeat (first | (with_reducible first | exact HB.out | apply below_alloc | apply pw_below_drewN | apply below_drew1 | refine below_set ?_ GE145.out | refine below_set ?_ GE146.out) | exact HB.out))) : w.heap.size ≤ gb154)); have n6_ := Aside0.mk ((by rw [hg]; exact Nat.ne_of_lt (blk_lt (g := gb145) (o := .cells #[.int .u64 a0_0, .int .u64 a0_1, .int .u64 a0_2, .int .u64 a0_3, .int .i64 a0_4, .int .i64 a0_5] 36 (0, 0)) (by (with_reducible repeat (first | refine blk_drewN ?_ _ | refine blk_drew ?_ | refine blk_alloc ?_ _)); exact BK145.out)) : gb145 ≠ gb154)); have n7_ := Aside0.mk ((by rw [hg]; exact Nat.ne_of_gt (blk_lt (g := gb145) (o := .cells #[.int .u64 a0_0, .int .u64 a0_1, .int .u64 a0_2, .int .u64 a0_3, .int .i64 a0_4, .int .i64 a0_5] 36 (0, 0)) (by (with_reducible repeat (first | refine blk_drewN ?_ _ | refine blk_drew ?_ | refine blk_alloc ?_ _)); exact BK145.out)) : gb154 ≠ gb145)); have n8_ := Aside0.mk ((by rw [hg]; exact Nat.ne_of_lt (blk_lt (g := gb146) (o := .cells #[.int .u64 0, .int .u64 0, .int .u64 0, .int .u64 0, .int .i64 0, .int .i64 0] 36 (0, 0)) (by (with_reducible repeat (first | refine blk_drewN ?_ _ | refine blk_drew ?_ | refine blk_alloc ?_ _)); exact BK146.out)) : gb146 ≠ gb154)); have n9_ := Aside0.mk ((by rw [hg]; exact Nat.ne_of_gt (blk_lt (g := gb146) (o := .cells #[.int .u64 0, .int .u64 0, .int .u64 0, .int .u64 0, .int .i64 0, .int .i64 0] 36 (0, 0)) (by (with_reducible repeat (first | refine blk_drewN ?_ _ | refine blk_drew ?_ | refine blk_alloc ?_ _)); exact BK146.out)) : gb154 ≠ gb146)); clear BK145; clear BK146; clear HB; have BK145 := n0_; have BK146 := n1_; have HB := n2_; have BK154 := n3_; have GW154 := n4_; have GE154 := n5_; have NB145_154 := n6_; have NB154_145 := n7_; have NB146_154 := n8_; have NB154_146 := n9_; clear n0_ n1_ n2_ n3_ n4_ n5_ n6_ n7_ n8_ n9_; clear hb hbox hg; have hnb20 := NB154_145.out; have hnc20 := NB145_154.out; have hnb21 := NB154_146.out; have hnc21 := NB146_154.out; have hcz22_0 : w19.cell? ⟨gb154, 0, none⟩ = some (.int .u64 0) := (blk_cell BK154.out 0).trans rfl; have hcz22_1 : w19.cell? ⟨gb154, 1, none⟩ = some (.int .u64 0) := (blk_cell BK154.out 1).trans rfl; have hcz22_2 : w19.cell? ⟨gb154, 2, none⟩ = some (.int .u64 0) := (blk_cell BK154.out 2).trans rfl; have hcz22_3 : w19.cell? ⟨gb154, 3, none⟩ = some (.int .u64 0) := (blk_cell BK154.out 3).trans rfl; have hcz22_4 : w19.cell? ⟨gb154, 4, none⟩ = some (.int .i64 0) := (blk_cell BK154.out 4).trans rfl; have hcz22_5 : w19.cell? ⟨gb154, 5, none⟩ = some (.int .i64 0) := (blk_cell BK154.out 5).trans rfl; have hfz22_0 := blk_frozen BK154.out 0; have hfz22_1 := blk_frozen BK154.out 1; have hfz22_2 := blk_frozen BK154.out 2; have hfz22_3 := blk_frozen BK154.out 3; have hfz22_4 := blk_frozen BK154.out 4; have hfz22_5 := blk_frozen BK154.out 5; have hnb23 := NB145_146.out; have hnc23 := NB146_145.out; have hcz24_0 : w19.cell? ⟨gb145, 0, none⟩ = some (.int .u64 a0_0) := (blk_cell BK145.out 0).trans rfl; have hcz24_1 : w19.cell? ⟨gb145, 1, none⟩ = some (.int .u64 a0_1) := (blk_cell BK145.out 1).trans rfl; have hcz24_2 : w19.cell? ⟨gb145, 2, none⟩ = some (.int .u64 a0_2) := (blk_cell BK145.out 2).trans rfl; have hcz24_3 : w19.cell? ⟨gb145, 3, none⟩ = some (.int .u64 a0_3) := (blk_cell BK145.out 3).trans rfl; have hcz24_4 : w19.cell? ⟨gb145, 4, none⟩ = some (.int .i64 a0_4) := (blk_cell BK145.out 4).trans rfl; have hcz24_5 : w19.cell? ⟨gb145, 5, none⟩ = some (.int .i64 a0_5) := (blk_cell BK145.out 5).trans rfl; have hfz24_0 := blk_frozen BK145.out 0; have hfz24_1 := blk_frozen BK145.out 1; have hfz24_2 := blk_frozen BK145.out 2; have hfz24_3 := blk_frozen BK145.out 3; have hfz24_4 := blk_frozen BK145.out 4; have hfz24_5 := blk_frozen BK145.out 5) | ((with_reducible refine gate_callee (f := 60) rfl ?_); refine goesL_ (some 18) rfl rfl Try.func60 (by kernel_rfl) rfl #[.agg #[.int .u64 a0_0, .int .u64 a0_1], .int .i64 a1] rfl (by (try simp only [List.map_toArray, List.map_cons, List.map_nil]); first | done | rfl | (simp only [List.length_drop, List.length_take]; rfl)) ?_; (with_reducible refine (tnum_Cut.calls a0_0 a0_1 a1 t155 t156 _ A13.out).mono ?_); rintro e w25 ⟨rfl, hb⟩; refine ⟨_, rfl, ?_⟩; have n0_ := Aside0.mk (blk_below (g := gb145) (o := .cells #[.int .u64 a0_0, .int .u64 a0_1, .int .u64 a0_2, .int .u64 a0_3, .int .i64 a0_4, .int .i64 a0_5] 36 (0, 0)) (by (with_reducible repeat (first | refine blk_drewN ?_ _ | refine blk_drew ?_ | refine blk_alloc ?_ _)); refine blk_far ?_ NB145_154.out _; refine blk_far ?_ NB145_154.out _; refine blk_far ?_ NB145_154.out _; refine blk_far ?_ NB145_154.out _; refine blk_far ?_ NB145_154.out _; refine blk_far ?_ NB145_154.out _; (with_reducible repeat (first | refine blk_drewN ?_ _ | refine blk_drew ?_ | refine blk_alloc ?_ _)); exact BK145.out) hb); have n1_ := Aside0.mk (blk_below (g := gb146) (o := .cells #[.int .u64 0, .int .u64 0, .int .u64 0, .int .u64 0, .int .i64 0, .int .i64 0] 36 (0, 0)) (by (with_reducible repeat (first | refine blk_drewN ?_ _ | refine blk_drew ?_ | refine blk_alloc ?_ _)); refine blk_far ?_ NB146_154.out _; refine blk_far ?_ NB146_154.out _; refine blk_far ?_ NB146_154.out _; refine blk_far ?_ NB146_154.out _; refine blk_far ?_ NB146_154.out _; refine blk_far ?_ NB146_154.out _; (with_reducible repeat (first | refine blk_drewN ?_ _ | refine blk_drew ?_ | refine blk_alloc ?_ _)); exact BK146.out) hb); have n2_ := Aside0.mk (blk_below (g := gb154) (o := .cells #[.int .u64 t148, .int .u64 t149, .int .u64 t150, .int .u64 t151, .int .i64 t152, .int .i64 t153] 36 (0, 0)) (by (with_reducible repeat (first | refine blk_drewN ?_ _ | refine blk_drew ?_ | refine blk_alloc ?_ _)); refine blk_put (cs := #[.int .u64 t148, .int .u64 t149, .int .u64 t150, .int .u64 t151, .int .i64 t152, .int .i64 0]) ?_ 5 _ rfl; refine blk_put (cs := #[.int .u64 t148, .int .u64 t149, .int .u64 t150, .int .u64 t151, .int .i64 0, .int .i64 0]) ?_ 4 _ rfl; refine blk_put (cs := #[.int .u64 t148, .int .u64 t149, .int .u64 t150, .int .u64 0, .int .i64 0, .int .i64 0]) ?_ 3 _ rfl; refine blk_put (cs := #[.int .u64 t148, .int .u64 t149, .int .u64 0, .int .u64 0, .int .i64 0, .int .i64 0]) ?_ 2 _ rfl; refine blk_put (cs := #[.int .u64 t148, .int .u64 0, .int .u64 0, .int .u64 0, .int .i64 0, .int .i64 0]) ?_ 1 _ rfl; refine blk_put (cs := #[.int .u64 0, .int .u64 0, .int .u64 0, .int .u64 0, .int .i64 0, .int .i64 0]) ?_ 0 _ rfl; (with_reducible repeat (first | refine blk_drewN ?_ _ | refine blk_drew ?_ | refine blk_alloc ?_ _)); exact BK154.out) hb); have n3_ := Aside0.mk (below_step (by repeat (first | (with_reducible first | exact HB.out | apply below_alloc | apply pw_below_drewN | apply below_drew1 | refine below_set ?_ GE145.out | refine below_set ?_ GE146.out | refine below_set ?_ GE154.out) | exact HB.out)) hb); clear BK145; clear BK146; clear BK154; clear HB; have BK145 := n0_; have BK146 := n1_; have BK154 := n2_; have HB := n3_; clear n0_ n1_ n2_ n3_; (try clear hb); (try clear hb2); (try clear hk); (try clear hi)) | ((with_reducible refine gate_callee (f := 61) rfl ?_); refine goesL_ (some 21) rfl rfl Try.func61 (by kernel_rfl) rfl #[.int .i64 (wrap64 (8 * a1))] rfl (by (try simp only [List.map_toArray, List.map_cons, List.map_nil]); first | done | rfl | (simp only [List.length_drop, List.length_take]; rfl)) ?_; (with_reducible refine (words_Low.calls (wrap64 (8 * a1)) t157 _ A14.out).mono ?_); rintro e w' ⟨rfl, ⟨nd, rfl⟩⟩; refine ⟨_, rfl, ?_⟩; (try (rw [drewN_self w25]; generalize hq_ : World.drewN w25 _ = w25; have n0_ : Aside0 (w25.heap[gb145]? = some (.cells #[.int .u64 a0_0, .int .u64 a0_1, .int .u64 a0_2, .int .u64 a0_3, .int .i64 a0_4, .int .i64 a0_5] 36 (0, 0))) := ⟨by rw [← hq_]; exact (by (with_reducible repeat (first | refine blk_drewN ?_ _ | refine blk_drew ?_ | refine blk_alloc ?_ _)); exact BK145.out)⟩; have n1_ : Aside0 (w25.heap[gb146]? = some (.cells #[.int .u64 0, .int .u64 0, .int .u64 0, .int .u64 0, .int .i64 0, .int .i64 0] 36 (0, 0))) := ⟨by rw [← hq_]; exact (by (with_reducible repeat (first | refine blk_drewN ?_ _ | refine blk_drew ?_ | refine blk_alloc ?_ _)); exact BK146.out)⟩; have n2_ : Aside0 (w25.heap[gb154]? = some (.cells #[.int .u64 t148, .int .u64 t149, .int .u64 t150, .int .u64 t151, .int .i64 t152, .int .i64 t153] 36 (0, 0))) := ⟨by rw [← hq_]; exact (by (with_reducible repeat (first | refine blk_drewN ?_ _ | refine blk_drew ?_ | refine blk_alloc ?_ _)); exact BK154.out)⟩; have n3_ : Aside0 (Below w.heap.size w w25) := ⟨by rw [← hq_]; exact (by repeat (first | (with_reducible first | exact HB.out | apply below_alloc | apply pw_below_drewN | apply below_drew1 | refine below_set ?_ GE145.out | refine below_set ?_ GE146.out | refine below_set ?_ GE154.out) | exact HB.out))⟩; clear BK145 BK146 BK154 HB hq_; have BK145 := n0_; have BK146 := n1_; have BK154 := n2_; have HB := n3_; clear n0_ n1_ n2_ n3_)); have hcz26_0 : w25.cell? ⟨gb154, 0, none⟩ = some (.int .u64 t148) := (blk_cell BK154.out 0).trans rfl; have hcz26_1 : w25.cell? ⟨gb154, 1, none⟩ = some (.int .u64 t149) := (blk_cell BK154.out 1).trans rfl; have hcz26_2 : w25.cell? ⟨gb154, 2, none⟩ = some (.int .u64 t150) := (blk_cell BK154.out 2).trans rfl; have hcz26_3 : w25.cell? ⟨gb154, 3, none⟩ = some (.int .u64 t151) := (blk_cell BK154.out 3).trans rfl; have hcz26_4 : w25.cell? ⟨gb154, 4, none⟩ = some (.int .i64 t152) := (blk_cell BK154.out 4).trans rfl; have hcz26_5 : w25.cell? ⟨gb154, 5, none⟩ = some (.int .i64 t153) := (blk_cell BK154.out 5).trans rfl; have hfz26_0 := blk_frozen BK154.out 0; have hfz26_1 := blk_frozen BK154.out 1; have hfz26_2 := blk_frozen BK154.out 2; have hfz26_3 := blk_frozen BK154.out 3; have hfz26_4 := blk_frozen BK154.out 4; have hfz26_5 := blk_frozen BK154.out 5; have hcz27_0 : w25.cell? ⟨gb145, 0, none⟩ = some (.int .u64 a0_0) := (blk_cell BK145.out 0).trans rfl; have hcz27_1 : w25.cell? ⟨gb145, 1, none⟩ = some (.int .u64 a0_1) := (blk_cell BK145.out 1).trans rfl; have hcz27_2 : w25.cell? ⟨gb145, 2, none⟩ = some (.int .u64 a0_2) := (blk_cell BK145.out 2).trans rfl; have hcz27_3 : w25.cell? ⟨gb145, 3, none⟩ = some (.int .u64 a0_3) := (blk_cell BK145.out 3).trans rfl; have hcz27_4 : w25.cell? ⟨gb145, 4, none⟩ = some (.int .i64 a0_4) := (blk_cell BK145.out 4).trans rfl; have hcz27_5 : w25.cell? ⟨gb145, 5, none⟩ = some (.int .i64 a0_5) := (blk_cell BK145.out 5).trans rfl; have hfz27_0 := blk_frozen BK145.out 0; have hfz27_1 := blk_frozen BK145.out 1; have hfz27_2 := blk_frozen BK145.out 2; have hfz27_3 := blk_frozen BK145.out 3; have hfz27_4 := blk_frozen BK145.out 4; have hfz27_5 := blk_frozen BK145.out 5) | ((with_reducible refine gate_callee (f := 62) rfl ?_); refine goesL_ (some 26) rfl rfl Try.func62 (by kernel_rfl) rfl #[.agg #[.int .u64 a0_0, .int .u64 a0_1, .int .u64 a0_2, .int .u64 a0_3, .int .i64 a0_4, .int .i64 a0_5], .int .i64 a1] rfl (by (try simp only [List.map_toArray, List.map_cons, List.map_nil]); first | done | rfl | (simp only [List.length_drop, List.length_take]; rfl)) ?_; (with_reducible refine (num_Low.calls a0_0 a0_1 a0_2 a0_3 a0_4 a0_5 a1 true _ A15.out).mono ?_); rintro e w28 ⟨rfl, hb⟩; refine ⟨_, rfl, ?_⟩; have n0_ := Aside0.mk (blk_below (g := gb145) (o := .cells #[.int .u64 a0_0, .int .u64 a0_1, .int .u64 a0_2, .int .u64 a0_3, .int .i64 a0_4, .int .i64 a0_5] 36 (0, 0)) (by (with_reducible repeat (first | refine blk_drewN ?_ _ | refine blk_drew ?_ | refine blk_alloc ?_ _)); refine blk_far ?_ NB145_154.out _; refine blk_far ?_ NB145_154.out _; refine blk_far ?_ NB145_154.out _; (with_reducible repeat (first | refine blk_drewN ?_ _ | refine blk_drew ?_ | refine blk_alloc ?_ _)); exact BK145.out) hb); have n1_ := Aside0.mk (blk_below (g := gb146) (o := .cells #[.int .u64 0, .int .u64 0, .int .u64 0, .int .u64 0, .int .i64 0, .int .i64 0] 36 (0, 0)) (by (with_reducible repeat (first | refine blk_drewN ?_ _ | refine blk_drew ?_ | refine blk_alloc ?_ _)); refine blk_far ?_ NB146_154.out _; refine blk_far ?_ NB146_154.out _; refine blk_far ?_ NB146_154.out _; (with_reducible repeat (first | refine blk_drewN ?_ _ | refine blk_drew ?_ | refine blk_alloc ?_ _)); exact BK146.out) hb); have n2_ := Aside0.mk (blk_below (g := gb154) (o := .cells #[.int .u64 t155, .int .u64 t156, .int .u64 t150, .int .u64 t157, .int .i64 t152, .int .i64 t153] 36 (0, 0)) (by (with_reducible repeat (first | refine blk_drewN ?_ _ | refine blk_drew ?_ | refine blk_alloc ?_ _)); refine blk_put (cs := #[.int .u64 t155, .int .u64 t156, .int .u64 t150, .int .u64 t151, .int .i64 t152, .int .i64 t153]) ?_ 3 _ rfl; refine blk_put (cs := #[.int .u64 t155, .int .u64 t149, .int .u64 t150, .int .u64 t151, .int .i64 t152, .int .i64 t153]) ?_ 1 _ rfl; refine blk_put (cs := #[.int .u64 t148, .int .u64 t149, .int .u64 t150, .int .u64 t151, .int .i64 t152, .int .i64 t153]) ?_ 0 _ rfl; (with_reducible repeat (first | refine blk_drewN ?_ _ | refine blk_drew ?_ | refine blk_alloc ?_ _)); exact BK154.out) hb); have n3_ := Aside0.mk (below_step (by repeat (first | (with_reducible first | exact HB.out | apply below_alloc | apply pw_below_drewN | apply below_drew1 | refine below_set ?_ GE145.out | refine below_set ?_ GE146.out | refine below_set ?_ GE154.out) | exact HB.out)) hb); clear BK145; clear BK146; clear BK154; clear HB; have BK145 := n0_; have BK146 := n1_; have BK154 := n2_; have HB := n3_; clear n0_ n1_ n2_ n3_; (try clear hb); (try clear hb2); (try clear hk); (try clear hi)))
          have n0_ := Aside0.mk (blk_drew BK145.out)
          have n1_ := Aside0.mk (blk_drew BK146.out)
          have n2_ := Aside0.mk (blk_drew BK154.out)
          have n3_ := Aside0.mk (below_drew1 HB.out)
          clear BK145
          clear BK146
          clear BK154
          clear HB
          have BK145 := n0_
          have BK146 := n1_
          have BK154 := n2_
          have HB := n3_
          clear n0_ n1_ n2_ n3_
          refine start_ (n := 8) (S := fun w' => w'.cell? ⟨gb145, 0, none⟩ = some (.int .u64 a0_0) ∧ w'.cell? ⟨gb145, 1, none⟩ = some (.int .u64 a0_1) ∧ w'.cell? ⟨gb145, 2, none⟩ = some (.int .u64 a0_2) ∧ w'.cell? ⟨gb145, 3, none⟩ = some (.int .u64 a0_3) ∧ w'.cell? ⟨gb145, 4, none⟩ = some (.int .i64 a0_4) ∧ w'.cell? ⟨gb145, 5, none⟩ = some (.int .i64 a0_5)) (ds := []) #[false, false, false, false, false, false, false, false] (by kernel_rfl) rfl rfl ⟨(blk_cell BK145.out 0).trans rfl, (blk_cell BK145.out 1).trans rfl, (blk_cell BK145.out 2).trans rfl, (blk_cell BK145.out 3).trans rfl, (blk_cell BK145.out 4).trans rfl, (blk_cell BK145.out 5).trans rfl⟩ (fun hHeld => ?_); refine with_tabW num_Cut.tab6 num_Cut.bits6 (fun HT_ HW_ => ?_)
          generalize w28.drew = w29 at BK145 BK146 BK154 HB hHeld ⊢
          refine pure_ (i := 0) (N := some 27) (v := ?_) (a' := ?_) #[true, false, false, false, false, false, false, false] rfl rfl (any_of HT_.out (by kernel_rfl)) (fun _ _ _ h => h) (Or.inl ⟨by rfl, ?_⟩) ?_ ?_
          rotate_left
          · intro w'
            go_simp
            with_reducible rfl
          rotate_left
          · simp only [Act.put, List.setIfInBounds_toArray, List.set_cons_zero, List.set_cons_succ, i64_w, i32_w]
            rfl
          refine pure_ (i := 2) (N := some 29) (v := ?_) (a' := ?_) #[true, false, true, false, false, false, false, false] rfl rfl (any_of HT_.out (by kernel_rfl)) (fun _ _ _ h => h) (Or.inl ⟨by rfl, ?_⟩) ?_ ?_
          rotate_left
          · intro w'
            go_simp
            with_reducible rfl
          rotate_left
          · simp only [Act.put, List.setIfInBounds_toArray, List.set_cons_zero, List.set_cons_succ, i64_w, i32_w]
            rfl
          refine take_ (i := 1) (N := some 28) (v := ?_) (a' := ?_) #[true, true, true, false, false, false, false, false] rfl rfl (take_ofW HT_.out HW_.out (by kernel_rfl)) (fun _ _ _ h => h) (Or.inl ⟨by rfl, ?_⟩) hHeld ?_ ?_
          rotate_left
          · rintro w' ⟨s0, s1, s2, s3, s4, s5⟩
            go_simp
            with_reducible rfl
          rotate_left
          · simp only [Act.put, List.setIfInBounds_toArray, List.set_cons_zero, List.set_cons_succ, i64_w, i32_w]
            rfl
          refine pure_ (i := 4) (N := some 31) (v := ?_) (a' := ?_) #[true, true, true, false, true, false, false, false] rfl rfl (any_of HT_.out (by kernel_rfl)) (fun _ _ _ h => h) (Or.inl ⟨by rfl, ?_⟩) ?_ ?_
          rotate_left
          · intro w'
            go_simp
            with_reducible rfl
          rotate_left
          · simp only [Act.put, List.setIfInBounds_toArray, List.set_cons_zero, List.set_cons_succ, i64_w, i32_w]
            rfl
          refine take_ (i := 3) (N := some 30) (v := ?_) (a' := ?_) #[true, true, true, true, true, false, false, false] rfl rfl (take_ofW HT_.out HW_.out (by kernel_rfl)) (fun _ _ _ h => h) (Or.inl ⟨by rfl, ?_⟩) hHeld ?_ ?_
          rotate_left
          · rintro w' ⟨s0, s1, s2, s3, s4, s5⟩
            go_simp
            with_reducible rfl
          rotate_left
          · simp only [Act.put, List.setIfInBounds_toArray, List.set_cons_zero, List.set_cons_succ, i64_w, i32_w]
            rfl
          refine one_ (i := 5) (N := none) #[true, true, true, true, true, true, false, false] rfl rfl (one_of HT_.out (by kernel_rfl)) (by decide) (fun K hK => ?_)
          have hs30 : w29.cell? ⟨gb154, 2, none⟩ = some (.int .u64 t150) := (blk_cell BK154.out 2).trans rfl
          have hfs30 := blk_frozen BK154.out 2
          have hns30_0 := NB145_154.out
          have hns30_1 := NB146_154.out
          have hms30_0 := NB154_145.out
          have hms30_1 := NB154_146.out
          refine skip_ (w1 := ?_) (by rfl) rfl ?_ ?_
          rotate_left
          · go_simp
            rfl
          refine hK.out _ _ ⟨((cell_far (p := ⟨gb154, _, none⟩) NB145_154.out _).trans (hHeld.1)), ((cell_far (p := ⟨gb154, _, none⟩) NB145_154.out _).trans (hHeld.2.1)), ((cell_far (p := ⟨gb154, _, none⟩) NB145_154.out _).trans (hHeld.2.2.1)), ((cell_far (p := ⟨gb154, _, none⟩) NB145_154.out _).trans (hHeld.2.2.2.1)), ((cell_far (p := ⟨gb154, _, none⟩) NB145_154.out _).trans (hHeld.2.2.2.2.1)), ((cell_far (p := ⟨gb154, _, none⟩) NB145_154.out _).trans (hHeld.2.2.2.2.2))⟩ (fun hHeld => ?_)
          clear hK K
          refine pure_ (i := 6) (N := some 32) (v := ?_) (a' := ?_) #[true, true, true, true, true, true, true, false] rfl rfl (any_of HT_.out (by kernel_rfl)) (fun _ _ _ h => h) (Or.inl ⟨by rfl, ?_⟩) ?_ ?_
          rotate_left
          · intro w'
            go_simp
            with_reducible rfl
          rotate_left
          · simp only [Act.put, List.setIfInBounds_toArray, List.set_cons_zero, List.set_cons_succ, i64_w, i32_w]
            rfl
          refine one_ (i := 7) (N := none) #[true, true, true, true, true, true, true, true] rfl rfl (one_of HT_.out (by kernel_rfl)) (by decide) (fun K hK => ?_)
          have hs31 : w29.cell? ⟨gb154, 3, none⟩ = some (.int .u64 t157) := (blk_cell BK154.out 3).trans rfl
          have hfs31 := blk_frozen BK154.out 3
          have hns31_0 := NB145_154.out
          have hns31_1 := NB146_154.out
          have hms31_0 := NB154_145.out
          have hms31_1 := NB154_146.out
          refine skip_ (w1 := ?_) (by rfl) rfl ?_ ?_
          rotate_left
          · go_simp
            rfl
          refine hK.out _ _ ⟨((cell_far (p := ⟨gb154, _, none⟩) NB145_154.out _).trans (hHeld.1)), ((cell_far (p := ⟨gb154, _, none⟩) NB145_154.out _).trans (hHeld.2.1)), ((cell_far (p := ⟨gb154, _, none⟩) NB145_154.out _).trans (hHeld.2.2.1)), ((cell_far (p := ⟨gb154, _, none⟩) NB145_154.out _).trans (hHeld.2.2.2.1)), ((cell_far (p := ⟨gb154, _, none⟩) NB145_154.out _).trans (hHeld.2.2.2.2.1)), ((cell_far (p := ⟨gb154, _, none⟩) NB145_154.out _).trans (hHeld.2.2.2.2.2))⟩ (fun hHeld => ?_)
          clear hK K
          refine done_ (done_of HT_.out (by kernel_rfl)) ?_
          have hcz32_0 : w29.cell? ⟨gb154, 0, none⟩ = some (.int .u64 t155) := (blk_cell BK154.out 0).trans rfl
          have hcz32_1 : w29.cell? ⟨gb154, 1, none⟩ = some (.int .u64 t156) := (blk_cell BK154.out 1).trans rfl
          have hcz32_2 : w29.cell? ⟨gb154, 2, none⟩ = some (.int .u64 t150) := (blk_cell BK154.out 2).trans rfl
          have hcz32_3 : w29.cell? ⟨gb154, 3, none⟩ = some (.int .u64 t157) := (blk_cell BK154.out 3).trans rfl
          have hcz32_4 : w29.cell? ⟨gb154, 4, none⟩ = some (.int .i64 t152) := (blk_cell BK154.out 4).trans rfl
          have hcz32_5 : w29.cell? ⟨gb154, 5, none⟩ = some (.int .i64 t153) := (blk_cell BK154.out 5).trans rfl
          have hfz32_0 := blk_frozen BK154.out 0
          have hfz32_1 := blk_frozen BK154.out 1
          have hfz32_2 := blk_frozen BK154.out 2
          have hfz32_3 := blk_frozen BK154.out 3
          have hfz32_4 := blk_frozen BK154.out 4
          have hfz32_5 := blk_frozen BK154.out 5
          try go_wp2_with (first | ((with_reducible refine gate_callee (f := 63) rfl ?_); refine goesL_ (some 34) rfl rfl Try.func63 (by kernel_rfl) rfl #[.agg #[.int .u64 t155, .int .u64 t156, .int .u64 a0_2, .int .u64 a0_3, .int .i64 t152, .int .i64 t153]] rfl (by (try simp only [List.map_toArray, List.map_cons, List.map_nil]); first | done | rfl | (simp only [List.length_drop, List.length_take]; rfl)) ?_; (with_reducible refine (num_orAll.calls t155 t156 a0_2 a0_3 t152 t153 t159 t160 t161 t162 t163 t164 _ A17.out).mono ?_); rintro e w33 ⟨rfl, hb⟩; refine ⟨_, rfl, ?_⟩; have n0_ := Aside0.mk (blk_below (g := gb145) (o := .cells #[.int .u64 a0_0, .int .u64 a0_1, .int .u64 a0_2, .int .u64 a0_3, .int .i64 a0_4, .int .i64 a0_5] 36 (0, 0)) (by (with_reducible repeat (first | refine blk_drewN ?_ _ | refine blk_drew ?_ | refine blk_alloc ?_ _)); refine blk_far ?_ NB145_154.out _; refine blk_far ?_ NB145_154.out _; (with_reducible repeat (first | refine blk_drewN ?_ _ | refine blk_drew ?_ | refine blk_alloc ?_ _)); exact BK145.out) hb); have n1_ := Aside0.mk (blk_below (g := gb146) (o := .cells #[.int .u64 0, .int .u64 0, .int .u64 0, .int .u64 0, .int .i64 0, .int .i64 0] 36 (0, 0)) (by (with_reducible repeat (first | refine blk_drewN ?_ _ | refine blk_drew ?_ | refine blk_alloc ?_ _)); refine blk_far ?_ NB146_154.out _; refine blk_far ?_ NB146_154.out _; (with_reducible repeat (first | refine blk_drewN ?_ _ | refine blk_drew ?_ | refine blk_alloc ?_ _)); exact BK146.out) hb); have n2_ := Aside0.mk (blk_below (g := gb154) (o := .cells #[.int .u64 t155, .int .u64 t156, .int .u64 a0_2, .int .u64 a0_3, .int .i64 t152, .int .i64 t153] 36 (0, 0)) (by (with_reducible repeat (first | refine blk_drewN ?_ _ | refine blk_drew ?_ | refine blk_alloc ?_ _)); refine blk_put (cs := #[.int .u64 t155, .int .u64 t156, .int .u64 a0_2, .int .u64 t157, .int .i64 t152, .int .i64 t153]) ?_ 3 _ rfl; refine blk_put (cs := #[.int .u64 t155, .int .u64 t156, .int .u64 t150, .int .u64 t157, .int .i64 t152, .int .i64 t153]) ?_ 2 _ rfl; (with_reducible repeat (first | refine blk_drewN ?_ _ | refine blk_drew ?_ | refine blk_alloc ?_ _)); exact BK154.out) hb); have n3_ := Aside0.mk (below_step (by repeat (first | (with_reducible first | exact HB.out | apply below_alloc | apply pw_below_drewN | apply below_drew1 | refine below_set ?_ GE145.out | refine below_set ?_ GE146.out | refine below_set ?_ GE154.out) | exact HB.out)) hb); clear BK145; clear BK146; clear BK154; clear HB; have BK145 := n0_; have BK146 := n1_; have BK154 := n2_; have HB := n3_; clear n0_ n1_ n2_ n3_; (try clear hb); (try clear hb2); (try clear hk); (try clear hi); have hcz34_0 : w33.cell? ⟨gb146, 0, none⟩ = some (.int .u64 0) := (blk_cell BK146.out 0).trans rfl; have hcz34_1 : w33.cell? ⟨gb146, 1, none⟩ = some (.int .u64 0) := (blk_cell BK146.out 1).trans rfl; have hcz34_2 : w33.cell? ⟨gb146, 2, none⟩ = some (.int .u64 0) := (blk_cell BK146.out 2).trans rfl; have hcz34_3 : w33.cell? ⟨gb146, 3, none⟩ = some (.int .u64 0) := (blk_cell BK146.out 3).trans rfl; have hcz34_4 : w33.cell? ⟨gb146, 4, none⟩ = some (.int .i64 0) := (blk_cell BK146.out 4).trans rfl; have hcz34_5 : w33.cell? ⟨gb146, 5, none⟩ = some (.int .i64 0) := (blk_cell BK146.out 5).trans rfl; have hfz34_0 := blk_frozen BK146.out 0; have hfz34_1 := blk_frozen BK146.out 1; have hfz34_2 := blk_frozen BK146.out 2; have hfz34_3 := blk_frozen BK146.out 3; have hfz34_4 := blk_frozen BK146.out 4; have hfz34_5 := blk_frozen BK146.out 5))
          refine bodyPost_ret (results_cell_row rfl _ _ gb146 36 #[.int .u64 t159, .int .u64 t160, .int .u64 t161, .int .u64 t162, .int .i64 t163, .int .i64 t164] (0, 0) _ rfl (by (with_reducible repeat (first | refine blk_drewN ?_ _ | refine blk_drew ?_ | refine blk_alloc ?_ _)); refine blk_put (cs := #[.int .u64 t159, .int .u64 t160, .int .u64 t161, .int .u64 t162, .int .i64 t163, .int .i64 0]) ?_ 5 _ rfl; refine blk_put (cs := #[.int .u64 t159, .int .u64 t160, .int .u64 t161, .int .u64 t162, .int .i64 0, .int .i64 0]) ?_ 4 _ rfl; refine blk_put (cs := #[.int .u64 t159, .int .u64 t160, .int .u64 t161, .int .u64 0, .int .i64 0, .int .i64 0]) ?_ 3 _ rfl; refine blk_put (cs := #[.int .u64 t159, .int .u64 t160, .int .u64 0, .int .u64 0, .int .i64 0, .int .i64 0]) ?_ 2 _ rfl; refine blk_put (cs := #[.int .u64 t159, .int .u64 0, .int .u64 0, .int .u64 0, .int .i64 0, .int .i64 0]) ?_ 1 _ rfl; refine blk_put (cs := #[.int .u64 0, .int .u64 0, .int .u64 0, .int .u64 0, .int .i64 0, .int .i64 0]) ?_ 0 _ rfl; (with_reducible repeat (first | refine blk_drewN ?_ _ | refine blk_drew ?_ | refine blk_alloc ?_ _)); exact BK146.out) Try.underlying36 rfl (by kernel_rfl)) rfl ?_
          exact ⟨by first | rfl | (simp [errW_none, errW_some] <;> rfl) | (simp [*, errW_none, errW_some] <;> rfl), by repeat (first | (with_reducible first | exact HB.out | apply below_alloc | apply pw_below_drewN | apply below_drew1 | refine below_set ?_ GE145.out | refine below_set ?_ GE146.out | refine below_set ?_ GE154.out) | exact HB.out)⟩
        · replace c16 := Bool.eq_false_iff.mpr c16
          subst c16
          have H1 : ((num_orAll.f t155 t156 t150 t157 t152 t153).bind fun bt165 => (some (bt165.1, bt165.2.1, bt165.2.2.1, bt165.2.2.2.1, bt165.2.2.2.2.1, bt165.2.2.2.2.2))) = some (r1, r2, r3, r4, r5, r6) := by rw [if_neg (show ¬ (false = true) by decide)] at H; exact H
          clear H
          have H := H1
          clear H1
          replace H := Option.bind_eq_some_iff.mp H
          obtain ⟨⟨t165, t166, t167, t168, t169, t170⟩, A350, H⟩ := H
          replace H : (some (t165, t166, t167, t168, t169, t170)) = some (r1, r2, r3, r4, r5, r6) := H
          have A35 := Aside0.mk A350
          clear A350
          simp only [Option.some.injEq, Prod.mk.injEq] at H
          obtain ⟨rfl, rfl, rfl, rfl, rfl, rfl⟩ := H
          go_wp2_with (first | ((with_reducible refine gate_callee (f := 29) rfl ?_); refine goesL_ (some 14) rfl rfl Try.func29 (by kernel_rfl) rfl #[] rfl (by (try simp only [List.map_toArray, List.map_cons, List.map_nil]); first | done | rfl | (simp only [List.length_drop, List.length_take]; rfl)) ?_; (with_reducible refine (num_All.calls  t148 t149 t150 t151 t152 t153 _ A12.out).mono ?_); rintro e w36 ⟨rfl, hb⟩; refine ⟨_, rfl, ?_⟩; have n0_ := Aside0.mk (blk_below (g := gb145) (o := .cells #[.int .u64 a0_0, .int .u64 a0_1, .int .u64 a0_2, .int .u64 a0_3, .int .i64 a0_4, .int .i64 a0_5] 36 (0, 0)) (by (with_reducible repeat (first | refine blk_drewN ?_ _ | refine blk_drew ?_ | refine blk_alloc ?_ _)); exact BK145.out) hb); have n1_ := Aside0.mk (blk_below (g := gb146) (o := .cells #[.int .u64 0, .int .u64 0, .int .u64 0, .int .u64 0, .int .i64 0, .int .i64 0] 36 (0, 0)) (by (with_reducible repeat (first | refine blk_drewN ?_ _ | refine blk_drew ?_ | refine blk_alloc ?_ _)); exact BK146.out) hb); have n2_ := Aside0.mk (below_step (by repeat (first | (with_reducible first | exact HB.out | apply below_alloc | apply pw_below_drewN | apply below_drew1 | refine below_set ?_ GE145.out | refine below_set ?_ GE146.out) | exact HB.out)) hb); clear BK145; clear BK146; clear HB; have BK145 := n0_; have BK146 := n1_; have HB := n2_; clear n0_ n1_ n2_; (try clear hb); (try clear hb2); (try clear hk); (try clear hi)) | ((with_reducible refine gate_dst (N := 5) rfl ?_); refine box_event ?hg (N := 5) ?hd (cs := #[.int .u64 0, .int .u64 0, .int .u64 0, .int .u64 0, .int .i64 0, .int .i64 0]) (t := 36) ?hr ?_; (case hd => rfl); (case hg => rfl); (case hr => first | (go_simp; done) | (go_simp; rfl)); intro gb154 hg w37 hbox hb; have n0_ := Aside0.mk (blk_below (g := gb145) (o := .cells #[.int .u64 a0_0, .int .u64 a0_1, .int .u64 a0_2, .int .u64 a0_3, .int .i64 a0_4, .int .i64 a0_5] 36 (0, 0)) (by (with_reducible repeat (first | refine blk_drewN ?_ _ | refine blk_drew ?_ | refine blk_alloc ?_ _)); exact BK145.out) hb); have n1_ := Aside0.mk (blk_below (g := gb146) (o := .cells #[.int .u64 0, .int .u64 0, .int .u64 0, .int .u64 0, .int .i64 0, .int .i64 0] 36 (0, 0)) (by (with_reducible repeat (first | refine blk_drewN ?_ _ | refine blk_drew ?_ | refine blk_alloc ?_ _)); exact BK146.out) hb); have n2_ := Aside0.mk (below_step (by repeat (first | (with_reducible first | exact HB.out | apply below_alloc | apply pw_below_drewN | apply below_drew1 | refine below_set ?_ GE145.out | refine below_set ?_ GE146.out) | exact HB.out)) hb); have n3_ := Aside0.mk (hbox); have n4_ := Aside0.mk ((by rw [hg]; exact (below_size (by repeat (first | (with_reducible first | exact HB.out | apply below_alloc | apply pw_below_drewN | apply below_drew1 | refine below_set ?_ GE145.out | refine below_set ?_ GE146.out) | exact HB.out))) : w.heap.size ≤ gb154)); have n5_ := Aside0.mk ((by rw [hg]; exact (below_size (by repeat (first | (with_reducible first | exact HB.out | apply below_alloc | apply pw_below_drewN | apply below_drew1 | refine below_set ?_ GE145.out | refine below_set ?_ GE146.out) | exact HB.out))) : w.heap.size ≤ gb154)); have n6_ := Aside0.mk ((by rw [hg]; exact Nat.ne_of_lt (blk_lt (g := gb145) (o := .cells #[.int .u64 a0_0, .int .u64 a0_1, .int .u64 a0_2, .int .u64 a0_3, .int .i64 a0_4, .int .i64 a0_5] 36 (0, 0)) (by (with_reducible repeat (first | refine blk_drewN ?_ _ | refine blk_drew ?_ | refine blk_alloc ?_ _)); exact BK145.out)) : gb145 ≠ gb154)); have n7_ := Aside0.mk ((by rw [hg]; exact Nat.ne_of_gt (blk_lt (g := gb145) (o := .cells #[.int .u64 a0_0, .int .u64 a0_1, .int .u64 a0_2, .int .u64 a0_3, .int .i64 a0_4, .int .i64 a0_5] 36 (0, 0)) (by (with_reducible repeat (first | refine blk_drewN ?_ _ | refine blk_drew ?_ | refine blk_alloc ?_ _)); exact BK145.out)) : gb154 ≠ gb145)); have n8_ := Aside0.mk ((by rw [hg]; exact Nat.ne_of_lt (blk_lt (g := gb146) (o := .cells #[.int .u64 0, .int .u64 0, .int .u64 0, .int .u64 0, .int .i64 0, .int .i64 0] 36 (0, 0)) (by (with_reducible repeat (first | refine blk_drewN ?_ _ | refine blk_drew ?_ | refine blk_alloc ?_ _)); exact BK146.out)) : gb146 ≠ gb154)); have n9_ := Aside0.mk ((by rw [hg]; exact Nat.ne_of_gt (blk_lt (g := gb146) (o := .cells #[.int .u64 0, .int .u64 0, .int .u64 0, .int .u64 0, .int .i64 0, .int .i64 0] 36 (0, 0)) (by (with_reducible repeat (first | refine blk_drewN ?_ _ | refine blk_drew ?_ | refine blk_alloc ?_ _)); exact BK146.out)) : gb154 ≠ gb146)); clear BK145; clear BK146; clear HB; have BK145 := n0_; have BK146 := n1_; have HB := n2_; have BK154 := n3_; have GW154 := n4_; have GE154 := n5_; have NB145_154 := n6_; have NB154_145 := n7_; have NB146_154 := n8_; have NB154_146 := n9_; clear n0_ n1_ n2_ n3_ n4_ n5_ n6_ n7_ n8_ n9_; clear hb hbox hg; have hnb38 := NB154_145.out; have hnc38 := NB145_154.out; have hnb39 := NB154_146.out; have hnc39 := NB146_154.out; have hcz40_0 : w37.cell? ⟨gb154, 0, none⟩ = some (.int .u64 0) := (blk_cell BK154.out 0).trans rfl; have hcz40_1 : w37.cell? ⟨gb154, 1, none⟩ = some (.int .u64 0) := (blk_cell BK154.out 1).trans rfl; have hcz40_2 : w37.cell? ⟨gb154, 2, none⟩ = some (.int .u64 0) := (blk_cell BK154.out 2).trans rfl; have hcz40_3 : w37.cell? ⟨gb154, 3, none⟩ = some (.int .u64 0) := (blk_cell BK154.out 3).trans rfl; have hcz40_4 : w37.cell? ⟨gb154, 4, none⟩ = some (.int .i64 0) := (blk_cell BK154.out 4).trans rfl; have hcz40_5 : w37.cell? ⟨gb154, 5, none⟩ = some (.int .i64 0) := (blk_cell BK154.out 5).trans rfl; have hfz40_0 := blk_frozen BK154.out 0; have hfz40_1 := blk_frozen BK154.out 1; have hfz40_2 := blk_frozen BK154.out 2; have hfz40_3 := blk_frozen BK154.out 3; have hfz40_4 := blk_frozen BK154.out 4; have hfz40_5 := blk_frozen BK154.out 5; have hnb41 := NB145_146.out; have hnc41 := NB146_145.out; have hcz42_0 : w37.cell? ⟨gb145, 0, none⟩ = some (.int .u64 a0_0) := (blk_cell BK145.out 0).trans rfl; have hcz42_1 : w37.cell? ⟨gb145, 1, none⟩ = some (.int .u64 a0_1) := (blk_cell BK145.out 1).trans rfl; have hcz42_2 : w37.cell? ⟨gb145, 2, none⟩ = some (.int .u64 a0_2) := (blk_cell BK145.out 2).trans rfl; have hcz42_3 : w37.cell? ⟨gb145, 3, none⟩ = some (.int .u64 a0_3) := (blk_cell BK145.out 3).trans rfl; have hcz42_4 : w37.cell? ⟨gb145, 4, none⟩ = some (.int .i64 a0_4) := (blk_cell BK145.out 4).trans rfl; have hcz42_5 : w37.cell? ⟨gb145, 5, none⟩ = some (.int .i64 a0_5) := (blk_cell BK145.out 5).trans rfl; have hfz42_0 := blk_frozen BK145.out 0; have hfz42_1 := blk_frozen BK145.out 1; have hfz42_2 := blk_frozen BK145.out 2; have hfz42_3 := blk_frozen BK145.out 3; have hfz42_4 := blk_frozen BK145.out 4; have hfz42_5 := blk_frozen BK145.out 5) | ((with_reducible refine gate_callee (f := 60) rfl ?_); refine goesL_ (some 18) rfl rfl Try.func60 (by kernel_rfl) rfl #[.agg #[.int .u64 a0_0, .int .u64 a0_1], .int .i64 a1] rfl (by (try simp only [List.map_toArray, List.map_cons, List.map_nil]); first | done | rfl | (simp only [List.length_drop, List.length_take]; rfl)) ?_; (with_reducible refine (tnum_Cut.calls a0_0 a0_1 a1 t155 t156 _ A13.out).mono ?_); rintro e w43 ⟨rfl, hb⟩; refine ⟨_, rfl, ?_⟩; have n0_ := Aside0.mk (blk_below (g := gb145) (o := .cells #[.int .u64 a0_0, .int .u64 a0_1, .int .u64 a0_2, .int .u64 a0_3, .int .i64 a0_4, .int .i64 a0_5] 36 (0, 0)) (by (with_reducible repeat (first | refine blk_drewN ?_ _ | refine blk_drew ?_ | refine blk_alloc ?_ _)); refine blk_far ?_ NB145_154.out _; refine blk_far ?_ NB145_154.out _; refine blk_far ?_ NB145_154.out _; refine blk_far ?_ NB145_154.out _; refine blk_far ?_ NB145_154.out _; refine blk_far ?_ NB145_154.out _; (with_reducible repeat (first | refine blk_drewN ?_ _ | refine blk_drew ?_ | refine blk_alloc ?_ _)); exact BK145.out) hb); have n1_ := Aside0.mk (blk_below (g := gb146) (o := .cells #[.int .u64 0, .int .u64 0, .int .u64 0, .int .u64 0, .int .i64 0, .int .i64 0] 36 (0, 0)) (by (with_reducible repeat (first | refine blk_drewN ?_ _ | refine blk_drew ?_ | refine blk_alloc ?_ _)); refine blk_far ?_ NB146_154.out _; refine blk_far ?_ NB146_154.out _; refine blk_far ?_ NB146_154.out _; refine blk_far ?_ NB146_154.out _; refine blk_far ?_ NB146_154.out _; refine blk_far ?_ NB146_154.out _; (with_reducible repeat (first | refine blk_drewN ?_ _ | refine blk_drew ?_ | refine blk_alloc ?_ _)); exact BK146.out) hb); have n2_ := Aside0.mk (blk_below (g := gb154) (o := .cells #[.int .u64 t148, .int .u64 t149, .int .u64 t150, .int .u64 t151, .int .i64 t152, .int .i64 t153] 36 (0, 0)) (by (with_reducible repeat (first | refine blk_drewN ?_ _ | refine blk_drew ?_ | refine blk_alloc ?_ _)); refine blk_put (cs := #[.int .u64 t148, .int .u64 t149, .int .u64 t150, .int .u64 t151, .int .i64 t152, .int .i64 0]) ?_ 5 _ rfl; refine blk_put (cs := #[.int .u64 t148, .int .u64 t149, .int .u64 t150, .int .u64 t151, .int .i64 0, .int .i64 0]) ?_ 4 _ rfl; refine blk_put (cs := #[.int .u64 t148, .int .u64 t149, .int .u64 t150, .int .u64 0, .int .i64 0, .int .i64 0]) ?_ 3 _ rfl; refine blk_put (cs := #[.int .u64 t148, .int .u64 t149, .int .u64 0, .int .u64 0, .int .i64 0, .int .i64 0]) ?_ 2 _ rfl; refine blk_put (cs := #[.int .u64 t148, .int .u64 0, .int .u64 0, .int .u64 0, .int .i64 0, .int .i64 0]) ?_ 1 _ rfl; refine blk_put (cs := #[.int .u64 0, .int .u64 0, .int .u64 0, .int .u64 0, .int .i64 0, .int .i64 0]) ?_ 0 _ rfl; (with_reducible repeat (first | refine blk_drewN ?_ _ | refine blk_drew ?_ | refine blk_alloc ?_ _)); exact BK154.out) hb); have n3_ := Aside0.mk (below_step (by repeat (first | (with_reducible first | exact HB.out | apply below_alloc | apply pw_below_drewN | apply below_drew1 | refine below_set ?_ GE145.out | refine below_set ?_ GE146.out | refine below_set ?_ GE154.out) | exact HB.out)) hb); clear BK145; clear BK146; clear BK154; clear HB; have BK145 := n0_; have BK146 := n1_; have BK154 := n2_; have HB := n3_; clear n0_ n1_ n2_ n3_; (try clear hb); (try clear hb2); (try clear hk); (try clear hi)) | ((with_reducible refine gate_callee (f := 61) rfl ?_); refine goesL_ (some 21) rfl rfl Try.func61 (by kernel_rfl) rfl #[.int .i64 (wrap64 (8 * a1))] rfl (by (try simp only [List.map_toArray, List.map_cons, List.map_nil]); first | done | rfl | (simp only [List.length_drop, List.length_take]; rfl)) ?_; (with_reducible refine (words_Low.calls (wrap64 (8 * a1)) t157 _ A14.out).mono ?_); rintro e w' ⟨rfl, ⟨nd, rfl⟩⟩; refine ⟨_, rfl, ?_⟩; (try (rw [drewN_self w43]; generalize hq_ : World.drewN w43 _ = w43; have n0_ : Aside0 (w43.heap[gb145]? = some (.cells #[.int .u64 a0_0, .int .u64 a0_1, .int .u64 a0_2, .int .u64 a0_3, .int .i64 a0_4, .int .i64 a0_5] 36 (0, 0))) := ⟨by rw [← hq_]; exact (by (with_reducible repeat (first | refine blk_drewN ?_ _ | refine blk_drew ?_ | refine blk_alloc ?_ _)); exact BK145.out)⟩; have n1_ : Aside0 (w43.heap[gb146]? = some (.cells #[.int .u64 0, .int .u64 0, .int .u64 0, .int .u64 0, .int .i64 0, .int .i64 0] 36 (0, 0))) := ⟨by rw [← hq_]; exact (by (with_reducible repeat (first | refine blk_drewN ?_ _ | refine blk_drew ?_ | refine blk_alloc ?_ _)); exact BK146.out)⟩; have n2_ : Aside0 (w43.heap[gb154]? = some (.cells #[.int .u64 t148, .int .u64 t149, .int .u64 t150, .int .u64 t151, .int .i64 t152, .int .i64 t153] 36 (0, 0))) := ⟨by rw [← hq_]; exact (by (with_reducible repeat (first | refine blk_drewN ?_ _ | refine blk_drew ?_ | refine blk_alloc ?_ _)); exact BK154.out)⟩; have n3_ : Aside0 (Below w.heap.size w w43) := ⟨by rw [← hq_]; exact (by repeat (first | (with_reducible first | exact HB.out | apply below_alloc | apply pw_below_drewN | apply below_drew1 | refine below_set ?_ GE145.out | refine below_set ?_ GE146.out | refine below_set ?_ GE154.out) | exact HB.out))⟩; clear BK145 BK146 BK154 HB hq_; have BK145 := n0_; have BK146 := n1_; have BK154 := n2_; have HB := n3_; clear n0_ n1_ n2_ n3_)); have hcz44_0 : w43.cell? ⟨gb154, 0, none⟩ = some (.int .u64 t148) := (blk_cell BK154.out 0).trans rfl; have hcz44_1 : w43.cell? ⟨gb154, 1, none⟩ = some (.int .u64 t149) := (blk_cell BK154.out 1).trans rfl; have hcz44_2 : w43.cell? ⟨gb154, 2, none⟩ = some (.int .u64 t150) := (blk_cell BK154.out 2).trans rfl; have hcz44_3 : w43.cell? ⟨gb154, 3, none⟩ = some (.int .u64 t151) := (blk_cell BK154.out 3).trans rfl; have hcz44_4 : w43.cell? ⟨gb154, 4, none⟩ = some (.int .i64 t152) := (blk_cell BK154.out 4).trans rfl; have hcz44_5 : w43.cell? ⟨gb154, 5, none⟩ = some (.int .i64 t153) := (blk_cell BK154.out 5).trans rfl; have hfz44_0 := blk_frozen BK154.out 0; have hfz44_1 := blk_frozen BK154.out 1; have hfz44_2 := blk_frozen BK154.out 2; have hfz44_3 := blk_frozen BK154.out 3; have hfz44_4 := blk_frozen BK154.out 4; have hfz44_5 := blk_frozen BK154.out 5; have hcz45_0 : w43.cell? ⟨gb145, 0, none⟩ = some (.int .u64 a0_0) := (blk_cell BK145.out 0).trans rfl; have hcz45_1 : w43.cell? ⟨gb145, 1, none⟩ = some (.int .u64 a0_1) := (blk_cell BK145.out 1).trans rfl; have hcz45_2 : w43.cell? ⟨gb145, 2, none⟩ = some (.int .u64 a0_2) := (blk_cell BK145.out 2).trans rfl; have hcz45_3 : w43.cell? ⟨gb145, 3, none⟩ = some (.int .u64 a0_3) := (blk_cell BK145.out 3).trans rfl; have hcz45_4 : w43.cell? ⟨gb145, 4, none⟩ = some (.int .i64 a0_4) := (blk_cell BK145.out 4).trans rfl; have hcz45_5 : w43.cell? ⟨gb145, 5, none⟩ = some (.int .i64 a0_5) := (blk_cell BK145.out 5).trans rfl; have hfz45_0 := blk_frozen BK145.out 0; have hfz45_1 := blk_frozen BK145.out 1; have hfz45_2 := blk_frozen BK145.out 2; have hfz45_3 := blk_frozen BK145.out 3; have hfz45_4 := blk_frozen BK145.out 4; have hfz45_5 := blk_frozen BK145.out 5) | ((with_reducible refine gate_callee (f := 62) rfl ?_); refine goesL_ (some 26) rfl rfl Try.func62 (by kernel_rfl) rfl #[.agg #[.int .u64 a0_0, .int .u64 a0_1, .int .u64 a0_2, .int .u64 a0_3, .int .i64 a0_4, .int .i64 a0_5], .int .i64 a1] rfl (by (try simp only [List.map_toArray, List.map_cons, List.map_nil]); first | done | rfl | (simp only [List.length_drop, List.length_take]; rfl)) ?_; (with_reducible refine (num_Low.calls a0_0 a0_1 a0_2 a0_3 a0_4 a0_5 a1 false _ A15.out).mono ?_); rintro e w46 ⟨rfl, hb⟩; refine ⟨_, rfl, ?_⟩; have n0_ := Aside0.mk (blk_below (g := gb145) (o := .cells #[.int .u64 a0_0, .int .u64 a0_1, .int .u64 a0_2, .int .u64 a0_3, .int .i64 a0_4, .int .i64 a0_5] 36 (0, 0)) (by (with_reducible repeat (first | refine blk_drewN ?_ _ | refine blk_drew ?_ | refine blk_alloc ?_ _)); refine blk_far ?_ NB145_154.out _; refine blk_far ?_ NB145_154.out _; refine blk_far ?_ NB145_154.out _; (with_reducible repeat (first | refine blk_drewN ?_ _ | refine blk_drew ?_ | refine blk_alloc ?_ _)); exact BK145.out) hb); have n1_ := Aside0.mk (blk_below (g := gb146) (o := .cells #[.int .u64 0, .int .u64 0, .int .u64 0, .int .u64 0, .int .i64 0, .int .i64 0] 36 (0, 0)) (by (with_reducible repeat (first | refine blk_drewN ?_ _ | refine blk_drew ?_ | refine blk_alloc ?_ _)); refine blk_far ?_ NB146_154.out _; refine blk_far ?_ NB146_154.out _; refine blk_far ?_ NB146_154.out _; (with_reducible repeat (first | refine blk_drewN ?_ _ | refine blk_drew ?_ | refine blk_alloc ?_ _)); exact BK146.out) hb); have n2_ := Aside0.mk (blk_below (g := gb154) (o := .cells #[.int .u64 t155, .int .u64 t156, .int .u64 t150, .int .u64 t157, .int .i64 t152, .int .i64 t153] 36 (0, 0)) (by (with_reducible repeat (first | refine blk_drewN ?_ _ | refine blk_drew ?_ | refine blk_alloc ?_ _)); refine blk_put (cs := #[.int .u64 t155, .int .u64 t156, .int .u64 t150, .int .u64 t151, .int .i64 t152, .int .i64 t153]) ?_ 3 _ rfl; refine blk_put (cs := #[.int .u64 t155, .int .u64 t149, .int .u64 t150, .int .u64 t151, .int .i64 t152, .int .i64 t153]) ?_ 1 _ rfl; refine blk_put (cs := #[.int .u64 t148, .int .u64 t149, .int .u64 t150, .int .u64 t151, .int .i64 t152, .int .i64 t153]) ?_ 0 _ rfl; (with_reducible repeat (first | refine blk_drewN ?_ _ | refine blk_drew ?_ | refine blk_alloc ?_ _)); exact BK154.out) hb); have n3_ := Aside0.mk (below_step (by repeat (first | (with_reducible first | exact HB.out | apply below_alloc | apply pw_below_drewN | apply below_drew1 | refine below_set ?_ GE145.out | refine below_set ?_ GE146.out | refine below_set ?_ GE154.out) | exact HB.out)) hb); clear BK145; clear BK146; clear BK154; clear HB; have BK145 := n0_; have BK146 := n1_; have BK154 := n2_; have HB := n3_; clear n0_ n1_ n2_ n3_; (try clear hb); (try clear hb2); (try clear hk); (try clear hi); have hcz47_0 : w46.cell? ⟨gb154, 0, none⟩ = some (.int .u64 t155) := (blk_cell BK154.out 0).trans rfl; have hcz47_1 : w46.cell? ⟨gb154, 1, none⟩ = some (.int .u64 t156) := (blk_cell BK154.out 1).trans rfl; have hcz47_2 : w46.cell? ⟨gb154, 2, none⟩ = some (.int .u64 t150) := (blk_cell BK154.out 2).trans rfl; have hcz47_3 : w46.cell? ⟨gb154, 3, none⟩ = some (.int .u64 t157) := (blk_cell BK154.out 3).trans rfl; have hcz47_4 : w46.cell? ⟨gb154, 4, none⟩ = some (.int .i64 t152) := (blk_cell BK154.out 4).trans rfl; have hcz47_5 : w46.cell? ⟨gb154, 5, none⟩ = some (.int .i64 t153) := (blk_cell BK154.out 5).trans rfl; have hfz47_0 := blk_frozen BK154.out 0; have hfz47_1 := blk_frozen BK154.out 1; have hfz47_2 := blk_frozen BK154.out 2; have hfz47_3 := blk_frozen BK154.out 3; have hfz47_4 := blk_frozen BK154.out 4; have hfz47_5 := blk_frozen BK154.out 5) | ((with_reducible refine gate_callee (f := 63) rfl ?_); refine goesL_ (some 34) rfl rfl Try.func63 (by kernel_rfl) rfl #[.agg #[.int .u64 t155, .int .u64 t156, .int .u64 t150, .int .u64 t157, .int .i64 t152, .int .i64 t153]] rfl (by (try simp only [List.map_toArray, List.map_cons, List.map_nil]); first | done | rfl | (simp only [List.length_drop, List.length_take]; rfl)) ?_; (with_reducible refine (num_orAll.calls t155 t156 t150 t157 t152 t153 t165 t166 t167 t168 t169 t170 _ A35.out).mono ?_); rintro e w48 ⟨rfl, hb⟩; refine ⟨_, rfl, ?_⟩; have n0_ := Aside0.mk (blk_below (g := gb145) (o := .cells #[.int .u64 a0_0, .int .u64 a0_1, .int .u64 a0_2, .int .u64 a0_3, .int .i64 a0_4, .int .i64 a0_5] 36 (0, 0)) (by (with_reducible repeat (first | refine blk_drewN ?_ _ | refine blk_drew ?_ | refine blk_alloc ?_ _)); exact BK145.out) hb); have n1_ := Aside0.mk (blk_below (g := gb146) (o := .cells #[.int .u64 0, .int .u64 0, .int .u64 0, .int .u64 0, .int .i64 0, .int .i64 0] 36 (0, 0)) (by (with_reducible repeat (first | refine blk_drewN ?_ _ | refine blk_drew ?_ | refine blk_alloc ?_ _)); exact BK146.out) hb); have n2_ := Aside0.mk (blk_below (g := gb154) (o := .cells #[.int .u64 t155, .int .u64 t156, .int .u64 t150, .int .u64 t157, .int .i64 t152, .int .i64 t153] 36 (0, 0)) (by (with_reducible repeat (first | refine blk_drewN ?_ _ | refine blk_drew ?_ | refine blk_alloc ?_ _)); exact BK154.out) hb); have n3_ := Aside0.mk (below_step (by repeat (first | (with_reducible first | exact HB.out | apply below_alloc | apply pw_below_drewN | apply below_drew1 | refine below_set ?_ GE145.out | refine below_set ?_ GE146.out | refine below_set ?_ GE154.out) | exact HB.out)) hb); clear BK145; clear BK146; clear BK154; clear HB; have BK145 := n0_; have BK146 := n1_; have BK154 := n2_; have HB := n3_; clear n0_ n1_ n2_ n3_; (try clear hb); (try clear hb2); (try clear hk); (try clear hi); have hcz49_0 : w48.cell? ⟨gb146, 0, none⟩ = some (.int .u64 0) := (blk_cell BK146.out 0).trans rfl; have hcz49_1 : w48.cell? ⟨gb146, 1, none⟩ = some (.int .u64 0) := (blk_cell BK146.out 1).trans rfl; have hcz49_2 : w48.cell? ⟨gb146, 2, none⟩ = some (.int .u64 0) := (blk_cell BK146.out 2).trans rfl; have hcz49_3 : w48.cell? ⟨gb146, 3, none⟩ = some (.int .u64 0) := (blk_cell BK146.out 3).trans rfl; have hcz49_4 : w48.cell? ⟨gb146, 4, none⟩ = some (.int .i64 0) := (blk_cell BK146.out 4).trans rfl; have hcz49_5 : w48.cell? ⟨gb146, 5, none⟩ = some (.int .i64 0) := (blk_cell BK146.out 5).trans rfl; have hfz49_0 := blk_frozen BK146.out 0; have hfz49_1 := blk_frozen BK146.out 1; have hfz49_2 := blk_frozen BK146.out 2; have hfz49_3 := blk_frozen BK146.out 3; have hfz49_4 := blk_frozen BK146.out 4; have hfz49_5 := blk_frozen BK146.out 5))
          refine bodyPost_ret (results_cell_row rfl _ _ gb146 36 #[.int .u64 t165, .int .u64 t166, .int .u64 t167, .int .u64 t168, .int .i64 t169, .int .i64 t170] (0, 0) _ rfl (by (with_reducible repeat (first | refine blk_drewN ?_ _ | refine blk_drew ?_ | refine blk_alloc ?_ _)); refine blk_put (cs := #[.int .u64 t165, .int .u64 t166, .int .u64 t167, .int .u64 t168, .int .i64 t169, .int .i64 0]) ?_ 5 _ rfl; refine blk_put (cs := #[.int .u64 t165, .int .u64 t166, .int .u64 t167, .int .u64 t168, .int .i64 0, .int .i64 0]) ?_ 4 _ rfl; refine blk_put (cs := #[.int .u64 t165, .int .u64 t166, .int .u64 t167, .int .u64 0, .int .i64 0, .int .i64 0]) ?_ 3 _ rfl; refine blk_put (cs := #[.int .u64 t165, .int .u64 t166, .int .u64 0, .int .u64 0, .int .i64 0, .int .i64 0]) ?_ 2 _ rfl; refine blk_put (cs := #[.int .u64 t165, .int .u64 0, .int .u64 0, .int .u64 0, .int .i64 0, .int .i64 0]) ?_ 1 _ rfl; refine blk_put (cs := #[.int .u64 0, .int .u64 0, .int .u64 0, .int .u64 0, .int .i64 0, .int .i64 0]) ?_ 0 _ rfl; (with_reducible repeat (first | refine blk_drewN ?_ _ | refine blk_drew ?_ | refine blk_alloc ?_ _)); exact BK146.out) Try.underlying36 rfl (by kernel_rfl)) rfl ?_
          exact ⟨by first | rfl | (simp [errW_none, errW_some] <;> rfl) | (simp [*, errW_none, errW_some] <;> rfl), by repeat (first | (with_reducible first | exact HB.out | apply below_alloc | apply pw_below_drewN | apply below_drew1 | refine below_set ?_ GE145.out | refine below_set ?_ GE146.out | refine below_set ?_ GE154.out) | exact HB.out)⟩

/-! ### tnum_Const: function 67 -/
def tnum_Const.f (a0 : Int) : Option (Int × Int) := some (a0, 0)
set_option maxHeartbeats 8000000 in
set_option maxRecDepth 100000 in
theorem tnum_Const.calls (a0 : Int) (r1 : Int) (r2 : Int) (w : World) (h : tnum_Const.f a0 = some (r1, r2)) :
    Calls Try.prog 67 #[.int .u64 a0] w fun e w' => e = .returned (.agg #[.int .u64 r1, .int .u64 r2]) ∧ Below w.heap.size w w' := by
  have hu34 := Try.underlying34
  have HB := Aside0.mk (Below.refl w.heap.size w)
  have H : (some (a0, 0)) = some (r1, r2) := h
  clear h
  simp only [Option.some.injEq, Prod.mk.injEq] at H
  obtain ⟨rfl, rfl⟩ := H
  go_enter Try.func67, Try.ntmps67
  go_wp2_with (first | ((with_reducible refine gate_dst (N := 2) rfl ?_); refine box_event ?hg (N := 2) ?hd (cs := #[.int .u64 0, .int .u64 0]) (t := 34) ?hr ?_; (case hd => rfl); (case hg => rfl); (case hr => first | (go_simp; done) | (go_simp; rfl)); intro gb171 hg w2 hbox hb; have n0_ := Aside0.mk (below_step (by repeat (first | (with_reducible first | exact HB.out | apply below_alloc | apply pw_below_drewN | apply below_drew1) | exact HB.out)) hb); have n1_ := Aside0.mk (hbox); have n2_ := Aside0.mk ((by rw [hg]; exact (below_size (by repeat (first | (with_reducible first | exact HB.out | apply below_alloc | apply pw_below_drewN | apply below_drew1) | exact HB.out))) : w.heap.size ≤ gb171)); have n3_ := Aside0.mk ((by rw [hg]; exact (below_size (by repeat (first | (with_reducible first | exact HB.out | apply below_alloc | apply pw_below_drewN | apply below_drew1) | exact HB.out))) : w.heap.size ≤ gb171)); clear HB; have HB := n0_; have BK171 := n1_; have GW171 := n2_; have GE171 := n3_; clear n0_ n1_ n2_ n3_; clear hb hbox hg; have hcz3_0 : w2.cell? ⟨gb171, 0, none⟩ = some (.int .u64 0) := (blk_cell BK171.out 0).trans rfl; have hcz3_1 : w2.cell? ⟨gb171, 1, none⟩ = some (.int .u64 0) := (blk_cell BK171.out 1).trans rfl; have hfz3_0 := blk_frozen BK171.out 0; have hfz3_1 := blk_frozen BK171.out 1))
  refine bodyPost_ret (results_cell_row rfl _ _ gb171 34 #[.int .u64 a0, .int .u64 0] (0, 0) _ rfl (by (with_reducible repeat (first | refine blk_drewN ?_ _ | refine blk_drew ?_ | refine blk_alloc ?_ _)); refine blk_put (cs := #[.int .u64 a0, .int .u64 0]) ?_ 1 _ rfl; refine blk_put (cs := #[.int .u64 0, .int .u64 0]) ?_ 0 _ rfl; (with_reducible repeat (first | refine blk_drewN ?_ _ | refine blk_drew ?_ | refine blk_alloc ?_ _)); exact BK171.out) Try.underlying34 rfl (by kernel_rfl)) rfl ?_
  exact ⟨by first | rfl | (simp [errW_none, errW_some] <;> rfl) | (simp [*, errW_none, errW_some] <;> rfl), by repeat (first | (with_reducible first | exact HB.out | apply below_alloc | apply pw_below_drewN | apply below_drew1 | refine below_set ?_ GE171.out) | exact HB.out)⟩

/-! ### num_Const: function 27 -/
def num_Const.f (a0 : Int) : Option (Int × Int × Int × Int × Int × Int) := (tnum_Const.f a0).bind fun bt173 => (some (bt173.1, bt173.2, a0, a0, wrap64 (a0), wrap64 (a0)))
set_option maxHeartbeats 8000000 in
set_option maxRecDepth 100000 in
theorem num_Const.calls (a0 : Int) (r1 : Int) (r2 : Int) (r3 : Int) (r4 : Int) (r5 : Int) (r6 : Int) (w : World) (h : num_Const.f a0 = some (r1, r2, r3, r4, r5, r6)) :
    Calls Try.prog 27 #[.int .u64 a0] w fun e w' => e = .returned (.agg #[.int .u64 r1, .int .u64 r2, .int .u64 r3, .int .u64 r4, .int .i64 r5, .int .i64 r6]) ∧ Below w.heap.size w w' := by
  have hu36 := Try.underlying36
  have HB := Aside0.mk (Below.refl w.heap.size w)
  have H : ((tnum_Const.f a0).bind fun bt173 => (some (bt173.1, bt173.2, a0, a0, wrap64 (a0), wrap64 (a0)))) = some (r1, r2, r3, r4, r5, r6) := h
  clear h
  replace H := Option.bind_eq_some_iff.mp H
  obtain ⟨⟨t173, t174⟩, A20, H⟩ := H
  replace H : (some (t173, t174, a0, a0, wrap64 (a0), wrap64 (a0))) = some (r1, r2, r3, r4, r5, r6) := H
  have A2 := Aside0.mk A20
  clear A20
  simp only [Option.some.injEq, Prod.mk.injEq] at H
  obtain ⟨rfl, rfl, rfl, rfl, rfl, rfl⟩ := H
  go_enter Try.func27, Try.ntmps27
  go_wp2_with (first | ((with_reducible refine gate_dst (N := 2) rfl ?_); refine box_event ?hg (N := 2) ?hd (cs := #[.int .u64 0, .int .u64 0, .int .u64 0, .int .u64 0, .int .i64 0, .int .i64 0]) (t := 36) ?hr ?_; (case hd => rfl); (case hg => rfl); (case hr => first | (go_simp; done) | (go_simp; rfl)); intro gb172 hg w3 hbox hb; have n0_ := Aside0.mk (below_step (by repeat (first | (with_reducible first | exact HB.out | apply below_alloc | apply pw_below_drewN | apply below_drew1) | exact HB.out)) hb); have n1_ := Aside0.mk (hbox); have n2_ := Aside0.mk ((by rw [hg]; exact (below_size (by repeat (first | (with_reducible first | exact HB.out | apply below_alloc | apply pw_below_drewN | apply below_drew1) | exact HB.out))) : w.heap.size ≤ gb172)); have n3_ := Aside0.mk ((by rw [hg]; exact (below_size (by repeat (first | (with_reducible first | exact HB.out | apply below_alloc | apply pw_below_drewN | apply below_drew1) | exact HB.out))) : w.heap.size ≤ gb172)); clear HB; have HB := n0_; have BK172 := n1_; have GW172 := n2_; have GE172 := n3_; clear n0_ n1_ n2_ n3_; clear hb hbox hg) | ((with_reducible refine gate_callee (f := 67) rfl ?_); refine goesL_ (some 4) rfl rfl Try.func67 (by kernel_rfl) rfl #[.int .u64 a0] rfl (by (try simp only [List.map_toArray, List.map_cons, List.map_nil]); first | done | rfl | (simp only [List.length_drop, List.length_take]; rfl)) ?_; (with_reducible refine (tnum_Const.calls a0 t173 t174 _ A2.out).mono ?_); rintro e w4 ⟨rfl, hb⟩; refine ⟨_, rfl, ?_⟩; have n0_ := Aside0.mk (blk_below (g := gb172) (o := .cells #[.int .u64 0, .int .u64 0, .int .u64 0, .int .u64 0, .int .i64 0, .int .i64 0] 36 (0, 0)) (by (with_reducible repeat (first | refine blk_drewN ?_ _ | refine blk_drew ?_ | refine blk_alloc ?_ _)); exact BK172.out) hb); have n1_ := Aside0.mk (below_step (by repeat (first | (with_reducible first | exact HB.out | apply below_alloc | apply pw_below_drewN | apply below_drew1 | refine below_set ?_ GE172.out) | exact HB.out)) hb); clear BK172; clear HB; have BK172 := n0_; have HB := n1_; clear n0_ n1_; (try clear hb); (try clear hb2); (try clear hk); (try clear hi); have hcz5_0 : w4.cell? ⟨gb172, 0, none⟩ = some (.int .u64 0) := (blk_cell BK172.out 0).trans rfl; have hcz5_1 : w4.cell? ⟨gb172, 1, none⟩ = some (.int .u64 0) := (blk_cell BK172.out 1).trans rfl; have hcz5_2 : w4.cell? ⟨gb172, 2, none⟩ = some (.int .u64 0) := (blk_cell BK172.out 2).trans rfl; have hcz5_3 : w4.cell? ⟨gb172, 3, none⟩ = some (.int .u64 0) := (blk_cell BK172.out 3).trans rfl; have hcz5_4 : w4.cell? ⟨gb172, 4, none⟩ = some (.int .i64 0) := (blk_cell BK172.out 4).trans rfl; have hcz5_5 : w4.cell? ⟨gb172, 5, none⟩ = some (.int .i64 0) := (blk_cell BK172.out 5).trans rfl; have hfz5_0 := blk_frozen BK172.out 0; have hfz5_1 := blk_frozen BK172.out 1; have hfz5_2 := blk_frozen BK172.out 2; have hfz5_3 := blk_frozen BK172.out 3; have hfz5_4 := blk_frozen BK172.out 4; have hfz5_5 := blk_frozen BK172.out 5))
  refine bodyPost_ret (results_cell_row rfl _ _ gb172 36 #[.int .u64 t173, .int .u64 t174, .int .u64 a0, .int .u64 a0, .int .i64 (wrap64 (a0)), .int .i64 (wrap64 (a0))] (0, 0) _ rfl (by (with_reducible repeat (first | refine blk_drewN ?_ _ | refine blk_drew ?_ | refine blk_alloc ?_ _)); refine blk_put (cs := #[.int .u64 t173, .int .u64 t174, .int .u64 a0, .int .u64 a0, .int .i64 (wrap64 (a0)), .int .i64 0]) ?_ 5 _ rfl; refine blk_put (cs := #[.int .u64 t173, .int .u64 t174, .int .u64 a0, .int .u64 a0, .int .i64 0, .int .i64 0]) ?_ 4 _ rfl; refine blk_put (cs := #[.int .u64 t173, .int .u64 t174, .int .u64 a0, .int .u64 0, .int .i64 0, .int .i64 0]) ?_ 3 _ rfl; refine blk_put (cs := #[.int .u64 t173, .int .u64 t174, .int .u64 0, .int .u64 0, .int .i64 0, .int .i64 0]) ?_ 2 _ rfl; refine blk_put (cs := #[.int .u64 t173, .int .u64 0, .int .u64 0, .int .u64 0, .int .i64 0, .int .i64 0]) ?_ 1 _ rfl; refine blk_put (cs := #[.int .u64 0, .int .u64 0, .int .u64 0, .int .u64 0, .int .i64 0, .int .i64 0]) ?_ 0 _ rfl; (with_reducible repeat (first | refine blk_drewN ?_ _ | refine blk_drew ?_ | refine blk_alloc ?_ _)); exact BK172.out) Try.underlying36 rfl (by kernel_rfl)) rfl ?_
  exact ⟨by first | rfl | (simp [errW_none, errW_some] <;> rfl) | (simp [*, errW_none, errW_some] <;> rfl), by repeat (first | (with_reducible first | exact HB.out | apply below_alloc | apply pw_below_drewN | apply below_drew1 | refine below_set ?_ GE172.out) | exact HB.out)⟩

end Go.Proofs.Ytdojdjafleaedaa.PNumRefines
