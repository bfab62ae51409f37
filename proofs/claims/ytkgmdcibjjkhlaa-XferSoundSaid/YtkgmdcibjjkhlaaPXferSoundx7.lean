/- Functions of the program that some laws reach, as Lean functions, and proofs that the program's calls come to what they say: written by a program, for the texts that import it; each theorem bears its own conditions. -/
import Derived.Test.YtkgmdcibjjkhlaaPXferSoundx0
import Derived.Test.YtkgmdcibjjkhlaaPXferSoundx6
namespace Go.Proofs.Ytkgmdcibjjkhlaa.PXferSound
open Go.RowKit Go.Proofs.YtkgmdcibjjkhlaaW.PrintWords Go.Proofs.YtkgmdcibjjkhlaaW.PrintLast Go.Proofs.YtkgmdcibjjkhlaaW.PrintMore
attribute [local go_sem] max2_int min2_int max_two min_two max_three min_three max_four min_four   -- for this text's walks alone
set_option linter.unusedVariables false
set_option linter.unusedSimpArgs false

/-! ### halberdref06_Of: function 88 -/
mutual
def halberdref06_Of.l0 : Nat → List Bool → List Bool → Int → Int → Int → Int → Option (Int × Int)
  | 0, _, _, _, _, _, _ => none
  | k + 1, x0, x1, x6, x7, x236000, x236001 => if x7 < 64 then (if 0 ≤ x7 then (if x7 < (x0.length : Int) then (if rdOf false x0 x7 = true then (if x7 < (x1.length : Int) then (halberdref06_Of.j1 k x0 x1 x6 x7 (rdOf false x1 x7) x236000 x236001) else (none)) else (halberdref06_Of.j1 k x0 x1 x6 x7 false x236000 x236001)) else (none)) else (none)) else (some (x236000, x236001))
def halberdref06_Of.j1 : Nat → List Bool → List Bool → Int → Int → Bool → Int → Int → Option (Int × Int)
  | 0, _, _, _, _, _, _, _ => none
  | k + 1, x0, x1, x6, x7, x22, x236000, x236001 => if x22 = true then (halberdref06_Of.l0 k x0 x1 (IntKind.u64.wrap (2 * x6)) (wrap64 (x7 + 1)) x236000 (IntKind.u64.wrap (x236001 + x6))) else (if 0 ≤ x7 then (if x7 < (x1.length : Int) then (if rdOf false x1 x7 = true then (halberdref06_Of.l0 k x0 x1 (IntKind.u64.wrap (2 * x6)) (wrap64 (x7 + 1)) (IntKind.u64.wrap (x236000 + x6)) x236001) else (halberdref06_Of.l0 k x0 x1 (IntKind.u64.wrap (2 * x6)) (wrap64 (x7 + 1)) x236000 x236001)) else (none)) else (none))
end
def halberdref06_Of.f (k : Nat) (l0 : List Bool) (l1 : List Bool) : Option (Int × Int) := halberdref06_Of.l0 k l0 l1 1 0 0 0
theorem halberdref06_Of.mono_l : ∀ k, (∀ y0 y1 y2 y3 y4 y5, LeO (halberdref06_Of.l0 k y0 y1 y2 y3 y4 y5) (halberdref06_Of.l0 (k + 1) y0 y1 y2 y3 y4 y5)) ∧ (∀ y0 y1 y2 y3 y4 y5 y6, LeO (halberdref06_Of.j1 k y0 y1 y2 y3 y4 y5 y6) (halberdref06_Of.j1 (k + 1) y0 y1 y2 y3 y4 y5 y6))
  | 0 => ⟨fun _ _ _ _ _ _ r h => by simp [halberdref06_Of.l0] at h, fun _ _ _ _ _ _ _ r h => by simp [halberdref06_Of.j1] at h⟩
  | k + 1 => by
    obtain ⟨ih0, ih1⟩ := halberdref06_Of.mono_l k
    refine ⟨?_, ?_⟩
    · intro y0 y1 y2 y3 y4 y5
      unfold halberdref06_Of.l0
      repeat' first
      | (with_reducible exact ih0 _ _ _ _ _ _)
      | (with_reducible exact ih1 _ _ _ _ _ _ _)
      | (with_reducible exact LeO.refl _)
      | (with_reducible exact LeO.none _)
      | (with_reducible refine LeO.ite ?_ ?_)
      | (with_reducible refine LeO.bind ?_ (fun _ => ?_))
      | exact ih0 _ _ _ _ _ _
      | exact ih1 _ _ _ _ _ _ _
      | exact LeO.none _
      | refine LeO.ite ?_ ?_
      | refine LeO.bind ?_ (fun _ => ?_)
    · intro y0 y1 y2 y3 y4 y5 y6
      unfold halberdref06_Of.j1
      repeat' first
      | (with_reducible exact ih0 _ _ _ _ _ _)
      | (with_reducible exact ih1 _ _ _ _ _ _ _)
      | (with_reducible exact LeO.refl _)
      | (with_reducible exact LeO.none _)
      | (with_reducible refine LeO.ite ?_ ?_)
      | (with_reducible refine LeO.bind ?_ (fun _ => ?_))
      | exact ih0 _ _ _ _ _ _
      | exact ih1 _ _ _ _ _ _ _
      | exact LeO.none _
      | refine LeO.ite ?_ ?_
      | refine LeO.bind ?_ (fun _ => ?_)
theorem halberdref06_Of.mono : ∀ a0 a1 k, LeO (halberdref06_Of.f k a0 a1) (halberdref06_Of.f (k + 1) a0 a1) := by
  intro a0 a1 k
  obtain ⟨ih0, ih1⟩ := halberdref06_Of.mono_l k
  unfold halberdref06_Of.f
  repeat' first
      | (with_reducible exact ih0 _ _ _ _ _ _)
      | (with_reducible exact ih1 _ _ _ _ _ _ _)
      | (with_reducible exact LeO.refl _)
      | (with_reducible exact LeO.none _)
      | (with_reducible refine LeO.ite ?_ ?_)
      | (with_reducible refine LeO.bind ?_ (fun _ => ?_))
      | exact ih0 _ _ _ _ _ _
      | exact ih1 _ _ _ _ _ _ _
      | exact LeO.none _
      | refine LeO.ite ?_ ?_
      | refine LeO.bind ?_ (fun _ => ?_)
set_option maxHeartbeats 8000000 in
set_option maxRecDepth 100000 in
theorem halberdref06_Of.calls (k : Nat) (A0 : Option Addr) (c0 : Nat) (l0 : List Bool) (A1 : Option Addr) (c1 : Nat) (l1 : List Bool) (r1 : Int) (r2 : Int) (w : World) (hr0 : Kd.C Kd.bool w A0 l0.length l0) (hc0 : l0.length ≤ c0) (hr1 : Kd.C Kd.bool w A1 l1.length l1) (hc1 : l1.length ≤ c1) (h : halberdref06_Of.f k l0 l1 = some (r1, r2)) :
    Calls Try.prog 88 #[.slice A0 l0.length c0, .slice A1 l1.length c1] w fun e w' => e = .returned (.agg #[.int .u64 r1, .int .u64 r2]) ∧ Below w.heap.size w w' := by
  have hu24 := Try.underlying24
  have HR0 := Aside0.mk hr0
  have HC0 := Aside0.mk hc0
  clear hr0 hc0
  have HR1 := Aside0.mk hr1
  have HC1 := Aside0.mk hc1
  clear hr1 hc1
  have HB := Aside0.mk (Below.refl w.heap.size w)
  have H : (halberdref06_Of.l0 k l0 l1 1 0 0 0) = some (r1, r2) := h
  clear h
  have H' := Aside0.mk H
  clear H
  go_enter Try.func88, Try.ntmps88
  go_wp2_with (first | ((with_reducible refine gate_dst (N := 4) rfl ?_); refine box_event ?hg (N := 4) ?hd (cs := #[.int .u64 0, .int .u64 0]) (t := 24) ?hr ?_; (case hd => rfl); (case hg => rfl); (case hr => first | (go_simp; done) | (go_simp; rfl)); intro gb234 hg w3 hbox hb; have n0_ := Aside0.mk (below_step (by repeat (first | (with_reducible first | exact HB.out | apply below_alloc | apply pw_below_drewN | apply below_drew1) | exact HB.out)) hb); have n1_ := Aside0.mk (hbox); have n2_ := Aside0.mk ((by rw [hg]; exact (below_size (by repeat (first | (with_reducible first | exact HB.out | apply below_alloc | apply pw_below_drewN | apply below_drew1) | exact HB.out))) : w.heap.size ≤ gb234)); have n3_ := Aside0.mk ((by rw [hg]; exact (below_size (by repeat (first | (with_reducible first | exact HB.out | apply below_alloc | apply pw_below_drewN | apply below_drew1) | exact HB.out))) : w.heap.size ≤ gb234)); clear HB; have HB := n0_; have BK234 := n1_; have GW234 := n2_; have GE234 := n3_; clear n0_ n1_ n2_ n3_; clear hb hbox hg) | ((with_reducible refine gate_dst (N := 5) rfl ?_); refine box_event ?hg (N := 5) ?hd (cs := #[.int .u64 0, .int .u64 0]) (t := 24) ?hr ?_; (case hd => rfl); (case hg => rfl); (case hr => first | (go_simp; done) | (go_simp; rfl)); intro gb235 hg w4 hbox hb; have n0_ := Aside0.mk (blk_below (g := gb234) (o := .cells #[.int .u64 0, .int .u64 0] 24 (0, 0)) (by (with_reducible repeat (first | refine blk_drewN ?_ _ | refine blk_drew ?_ | refine blk_alloc ?_ _)); exact BK234.out) hb); have n1_ := Aside0.mk (below_step (by repeat (first | (with_reducible first | exact HB.out | apply below_alloc | apply pw_below_drewN | apply below_drew1 | refine below_set ?_ GE234.out) | exact HB.out)) hb); have n2_ := Aside0.mk (hbox); have n3_ := Aside0.mk ((by rw [hg]; exact (below_size (by repeat (first | (with_reducible first | exact HB.out | apply below_alloc | apply pw_below_drewN | apply below_drew1 | refine below_set ?_ GE234.out) | exact HB.out))) : w.heap.size ≤ gb235)); have n4_ := Aside0.mk ((by rw [hg]; exact (below_size (by repeat (first | (with_reducible first | exact HB.out | apply below_alloc | apply pw_below_drewN | apply below_drew1 | refine below_set ?_ GE234.out) | exact HB.out))) : w.heap.size ≤ gb235)); have n5_ := Aside0.mk ((by rw [hg]; exact Nat.ne_of_lt (blk_lt (g := gb234) (o := .cells #[.int .u64 0, .int .u64 0] 24 (0, 0)) (by (with_reducible repeat (first | refine blk_drewN ?_ _ | refine blk_drew ?_ | refine blk_alloc ?_ _)); exact BK234.out)) : gb234 ≠ gb235)); have n6_ := Aside0.mk ((by rw [hg]; exact Nat.ne_of_gt (blk_lt (g := gb234) (o := .cells #[.int .u64 0, .int .u64 0] 24 (0, 0)) (by (with_reducible repeat (first | refine blk_drewN ?_ _ | refine blk_drew ?_ | refine blk_alloc ?_ _)); exact BK234.out)) : gb235 ≠ gb234)); clear BK234; clear HB; have BK234 := n0_; have HB := n1_; have BK235 := n2_; have GW235 := n3_; have GE235 := n4_; have NB234_235 := n5_; have NB235_234 := n6_; clear n0_ n1_ n2_ n3_ n4_ n5_ n6_; clear hb hbox hg; have hnb5 := NB235_234.out; have hnc5 := NB234_235.out; have hcz6_0 : w4.cell? ⟨gb235, 0, none⟩ = some (.int .u64 0) := (blk_cell BK235.out 0).trans rfl; have hcz6_1 : w4.cell? ⟨gb235, 1, none⟩ = some (.int .u64 0) := (blk_cell BK235.out 1).trans rfl; have hfz6_0 := blk_frozen BK235.out 0; have hfz6_1 := blk_frozen BK235.out 1))
  go_loopg [6, 7] k (fun kq v6 v7 w' => ∃ (x6_1 : Int) (x7_1 : Int) (x236000_1 : Int) (x236001_1 : Int), v6 = .int .u64 x6_1 ∧ v7 = .int .i64 x7_1 ∧ Aside0 (halberdref06_Of.l0 kq l0 l1 x6_1 x7_1 x236000_1 x236001_1 = some (r1, r2)) ∧ Aside0 (kq ≤ k) ∧ Aside0 (w'.heap[gb234]? = some (.cells #[.int .u64 0, .int .u64 0] 24 (0, 0))) ∧ Aside0 (w'.heap[gb235]? = some (.cells #[.int .u64 x236000_1, .int .u64 x236001_1] 24 (0, 0))) ∧ Aside0 (Below w.heap.size w w'))
  case atStart => exact ⟨(1), (0), (0), (0), (by first | rfl | (simp; done) | (simp [*]; done)), (by first | rfl | (simp; done) | (simp [*]; done)), H', ⟨Nat.le_refl _⟩, ⟨by (with_reducible repeat (first | refine blk_drewN ?_ _ | refine blk_drew ?_ | refine blk_alloc ?_ _)); refine blk_far ?_ NB234_235.out _; (with_reducible repeat (first | refine blk_drewN ?_ _ | refine blk_drew ?_ | refine blk_alloc ?_ _)); refine blk_far ?_ NB234_235.out _; (with_reducible repeat (first | refine blk_drewN ?_ _ | refine blk_drew ?_ | refine blk_alloc ?_ _)); exact BK234.out⟩, ⟨by (with_reducible repeat (first | refine blk_drewN ?_ _ | refine blk_drew ?_ | refine blk_alloc ?_ _)); refine blk_put (cs := #[.int .u64 0, .int .u64 0]) ?_ 1 _ rfl; (with_reducible repeat (first | refine blk_drewN ?_ _ | refine blk_drew ?_ | refine blk_alloc ?_ _)); refine blk_put (cs := #[.int .u64 0, .int .u64 0]) ?_ 0 _ rfl; (with_reducible repeat (first | refine blk_drewN ?_ _ | refine blk_drew ?_ | refine blk_alloc ?_ _)); exact BK235.out⟩, ⟨by repeat (first | (with_reducible first | exact HB.out | apply below_alloc | apply pw_below_drewN | apply below_drew1 | refine below_set ?_ GE234.out | refine below_set ?_ GE235.out) | exact HB.out)⟩⟩
  case round =>
    clear H'
    try clear c1
    try clear p2
    try clear c5
    try clear hcz6_0
    try clear hcz6_1
    try clear hfz6_0
    try clear hfz6_1
    obtain ⟨x6_1, x7_1, x236000_1, x236001_1, rfl, rfl, HA, HK1, BK234, BK235, HB⟩ := hrel
    cases gk with
    | zero => exact absurd HA.out (by simp [halberdref06_Of.l0])
    | succ k1 =>
      have H := HA.out
      clear HA
      simp only [halberdref06_Of.l0] at H
      by_cases c7 : x7_1 < 64
      · rw [if_pos c7] at H
        have c7b0 : decide (x7_1 < 64) = true := decide_eq_true c7
        clear c7
        have HC8 := Aside0.mk H
        clear H
        go_upto_region 6 with (fail)
        go_cut [22] (fun v22 wc => ∃ (kq : Nat) (x22_7 : Bool), v22 = .bool x22_7 ∧ Aside0 (halberdref06_Of.j1 kq l0 l1 x6_1 x7_1 x22_7 x236000_1 x236001_1 = some (r1, r2)) ∧ Aside0 (kq ≤ k1) ∧ Aside0 (wc.heap[gb234]? = some (.cells #[.int .u64 0, .int .u64 0] 24 (0, 0))) ∧ Aside0 (wc.heap[gb235]? = some (.cells #[.int .u64 x236000_1, .int .u64 x236001_1] 24 (0, 0))) ∧ Aside0 (Below w.heap.size w wc))
        case first =>
          have H := HC8.out
          clear HC8
          by_cases c9 : 0 ≤ x7_1
          · rw [if_pos c9] at H
            have c9b0 : decide (0 ≤ x7_1) = true := decide_eq_true c9
            clear c9
            (first | rw [c9b0] | (simp only [i64_w, i32_w]; rw [c9b0]) | skip)
            by_cases c10 : x7_1 < (l0.length : Int)
            · rw [if_pos c10] at H
              have c10b0 : decide (x7_1 < (l0.length : Int)) = true := decide_eq_true c10
              clear c10
              obtain ⟨bq11, hbq11⟩ : ∃ b_ : Bool, b_ = (rdOf false l0 x7_1) := ⟨_, rfl⟩
              replace H : (if bq11 = true then (if x7_1 < (l1.length : Int) then (halberdref06_Of.j1 k1 l0 l1 x6_1 x7_1 (rdOf false l1 x7_1) x236000_1 x236001_1) else (none)) else (halberdref06_Of.j1 k1 l0 l1 x6_1 x7_1 false x236000_1 x236001_1)) = some (r1, r2) := by rw [← hbq11] at H; exact H
              have Nbq11 := Aside0.mk hbq11
              clear hbq11
              by_cases c12 : bq11 = true
              · subst c12
                have H1 : (if x7_1 < (l1.length : Int) then (halberdref06_Of.j1 k1 l0 l1 x6_1 x7_1 (rdOf false l1 x7_1) x236000_1 x236001_1) else (none)) = some (r1, r2) := by rw [if_pos rfl] at H; exact H
                clear H
                have H := H1
                clear H1
                by_cases c13 : x7_1 < (l1.length : Int)
                · rw [if_pos c13] at H
                  have c13b0 : decide (x7_1 < (l1.length : Int)) = true := decide_eq_true c13
                  clear c13
                  have H' := Aside0.mk H
                  clear H
                  have p236 : 0 ≤ (x7_1 : Int) := of_decide_eq_true (by first | (with_reducible assumption) | assumption)
                  have q236 : x7_1 < (l0.length : Int) := of_decide_eq_true (by first | (with_reducible assumption) | assumption)
                  obtain ⟨ad236, e236, hx236_0⟩ := Kd.at_bool HR0.out x7_1 p236 q236
                  (try rw [← Nbq11.out] at hx236_0)
                  cases e236
                  replace hx236_0 := (HB.out.cell (World.block_lt_of_cell? w _ hx236_0)).trans hx236_0
                  replace p236 := eq_true p236
                  replace q236 := eq_true q236
                  have p237 : 0 ≤ (x7_1 : Int) := of_decide_eq_true (by first | (with_reducible assumption) | assumption)
                  have q237 : x7_1 < (l1.length : Int) := of_decide_eq_true (by first | (with_reducible assumption) | assumption)
                  obtain ⟨ad237, e237, hx237_0⟩ := Kd.at_bool HR1.out x7_1 p237 q237
                  (try rw [← Nbq11.out] at hx237_0)
                  cases e237
                  replace hx237_0 := (HB.out.cell (World.block_lt_of_cell? w _ hx237_0)).trans hx237_0
                  replace p237 := eq_true p237
                  replace q237 := eq_true q237
                  go_wp2
                  go_meet
                  case rel => exact ⟨_, (rdOf false l1 x7_1), (by first | rfl | (simp; done) | (simp [*]; done)), H', ⟨by have := HK1.out; first | omega | exact Nat.le_refl _⟩, ⟨by (with_reducible repeat (first | refine blk_drewN ?_ _ | refine blk_drew ?_ | refine blk_alloc ?_ _)); exact BK234.out⟩, ⟨by (with_reducible repeat (first | refine blk_drewN ?_ _ | refine blk_drew ?_ | refine blk_alloc ?_ _)); exact BK235.out⟩, ⟨by repeat (first | (with_reducible first | exact HB.out | apply below_alloc | apply pw_below_drewN | apply below_drew1 | refine below_set ?_ GE234.out | refine below_set ?_ GE235.out) | exact HB.out)⟩⟩
                · rw [if_neg c13] at H
                  exact absurd H (by simp)
              · replace c12 := Bool.eq_false_iff.mpr c12
                subst c12
                have H1 : (halberdref06_Of.j1 k1 l0 l1 x6_1 x7_1 false x236000_1 x236001_1) = some (r1, r2) := by rw [if_neg (show ¬ (false = true) by decide)] at H; exact H
                clear H
                have H := H1
                clear H1
                have H' := Aside0.mk H
                clear H
                have p236 : 0 ≤ (x7_1 : Int) := of_decide_eq_true (by first | (with_reducible assumption) | assumption)
                have q236 : x7_1 < (l0.length : Int) := of_decide_eq_true (by first | (with_reducible assumption) | assumption)
                obtain ⟨ad236, e236, hx236_0⟩ := Kd.at_bool HR0.out x7_1 p236 q236
                (try rw [← Nbq11.out] at hx236_0)
                cases e236
                replace hx236_0 := (HB.out.cell (World.block_lt_of_cell? w _ hx236_0)).trans hx236_0
                replace p236 := eq_true p236
                replace q236 := eq_true q236
                go_wp2
                go_meet
                case rel => exact ⟨_, (false), (by first | rfl | (simp; done) | (simp [*]; done)), H', ⟨by have := HK1.out; first | omega | exact Nat.le_refl _⟩, ⟨by (with_reducible repeat (first | refine blk_drewN ?_ _ | refine blk_drew ?_ | refine blk_alloc ?_ _)); exact BK234.out⟩, ⟨by (with_reducible repeat (first | refine blk_drewN ?_ _ | refine blk_drew ?_ | refine blk_alloc ?_ _)); exact BK235.out⟩, ⟨by repeat (first | (with_reducible first | exact HB.out | apply below_alloc | apply pw_below_drewN | apply below_drew1 | refine below_set ?_ GE234.out | refine below_set ?_ GE235.out) | exact HB.out)⟩⟩
            · rw [if_neg c10] at H
              exact absurd H (by simp)
          · rw [if_neg c9] at H
            exact absurd H (by simp)
        case rest =>
          clear HC8
          try clear c1
          try clear q1
          try clear p2
          try clear q2
          try clear hx2
          try clear c5
          try clear c7
          try clear c7b0
          try clear c8
          try clear c9
          try clear c9b0
          try clear c10
          try clear c10b0
          try clear q11
          try clear c12
          try clear c13
          try clear c13b0
          try clear hcz6_0
          try clear hcz6_1
          try clear hfz6_0
          try clear hfz6_1
          try clear hx236_0
          try clear hx237_0
          try clear p2
          try clear p236
          try clear p237
          try clear q236
          try clear q237
          obtain ⟨kq, x22_7, rfl, HA, HJ7, BK234, BK235, HB⟩ := hcut
          cases kq with
          | zero => exact absurd HA.out (by simp [halberdref06_Of.j1])
          | succ kj7 =>
            have H := HA.out
            clear HA
            simp only [halberdref06_Of.j1] at H
            by_cases c14 : x22_7 = true
            · subst c14
              have H1 : (halberdref06_Of.l0 kj7 l0 l1 (IntKind.u64.wrap (2 * x6_1)) (wrap64 (x7_1 + 1)) x236000_1 (IntKind.u64.wrap (x236001_1 + x6_1))) = some (r1, r2) := by rw [if_pos rfl] at H; exact H
              clear H
              have H := H1
              clear H1
              have H' := Aside0.mk H
              clear H
              have hnb15 := NB235_234.out
              have hnc15 := NB234_235.out
              have hcz16_0 : wc.cell? ⟨gb235, 0, none⟩ = some (.int .u64 x236000_1) := (blk_cell BK235.out 0).trans rfl
              have hcz16_1 : wc.cell? ⟨gb235, 1, none⟩ = some (.int .u64 x236001_1) := (blk_cell BK235.out 1).trans rfl
              have hfz16_0 := blk_frozen BK235.out 0
              have hfz16_1 := blk_frozen BK235.out 1
              go_wp2
              go_roundg kj7
              case measure => have := HK1.out; have := HJ7.out; omega
              case rel => exact ⟨(IntKind.u64.wrap (2 * x6_1)), (wrap64 (x7_1 + 1)), (x236000_1), (IntKind.u64.wrap (x236001_1 + x6_1)), (by first | rfl | (simp; done) | (simp [*]; done)), (by first | rfl | (simp; done) | (simp [*]; done)), H', ⟨by have := HK1.out; have := HJ7.out; omega⟩, ⟨by (with_reducible repeat (first | refine blk_drewN ?_ _ | refine blk_drew ?_ | refine blk_alloc ?_ _)); refine blk_far ?_ NB234_235.out _; (with_reducible repeat (first | refine blk_drewN ?_ _ | refine blk_drew ?_ | refine blk_alloc ?_ _)); exact BK234.out⟩, ⟨by (with_reducible repeat (first | refine blk_drewN ?_ _ | refine blk_drew ?_ | refine blk_alloc ?_ _)); refine blk_put (cs := #[.int .u64 x236000_1, .int .u64 x236001_1]) ?_ 1 _ rfl; (with_reducible repeat (first | refine blk_drewN ?_ _ | refine blk_drew ?_ | refine blk_alloc ?_ _)); exact BK235.out⟩, ⟨by repeat (first | (with_reducible first | exact HB.out | apply below_alloc | apply pw_below_drewN | apply below_drew1 | refine below_set ?_ GE234.out | refine below_set ?_ GE235.out) | exact HB.out)⟩⟩
            · replace c14 := Bool.eq_false_iff.mpr c14
              subst c14
              have H1 : (if 0 ≤ x7_1 then (if x7_1 < (l1.length : Int) then (if rdOf false l1 x7_1 = true then (halberdref06_Of.l0 kj7 l0 l1 (IntKind.u64.wrap (2 * x6_1)) (wrap64 (x7_1 + 1)) (IntKind.u64.wrap (x236000_1 + x6_1)) x236001_1) else (halberdref06_Of.l0 kj7 l0 l1 (IntKind.u64.wrap (2 * x6_1)) (wrap64 (x7_1 + 1)) x236000_1 x236001_1)) else (none)) else (none)) = some (r1, r2) := by rw [if_neg (show ¬ (false = true) by decide)] at H; exact H
              clear H
              have H := H1
              clear H1
              by_cases c17 : 0 ≤ x7_1
              · rw [if_pos c17] at H
                have c17b0 : decide (0 ≤ x7_1) = true := decide_eq_true c17
                clear c17
                by_cases c18 : x7_1 < (l1.length : Int)
                · rw [if_pos c18] at H
                  have c18b0 : decide (x7_1 < (l1.length : Int)) = true := decide_eq_true c18
                  clear c18
                  obtain ⟨bq19, hbq19⟩ : ∃ b_ : Bool, b_ = (rdOf false l1 x7_1) := ⟨_, rfl⟩
                  replace H : (if bq19 = true then (halberdref06_Of.l0 kj7 l0 l1 (IntKind.u64.wrap (2 * x6_1)) (wrap64 (x7_1 + 1)) (IntKind.u64.wrap (x236000_1 + x6_1)) x236001_1) else (halberdref06_Of.l0 kj7 l0 l1 (IntKind.u64.wrap (2 * x6_1)) (wrap64 (x7_1 + 1)) x236000_1 x236001_1)) = some (r1, r2) := by rw [← hbq19] at H; exact H
                  have Nbq19 := Aside0.mk hbq19
                  clear hbq19
                  by_cases c20 : bq19 = true
                  · subst c20
                    have H1 : (halberdref06_Of.l0 kj7 l0 l1 (IntKind.u64.wrap (2 * x6_1)) (wrap64 (x7_1 + 1)) (IntKind.u64.wrap (x236000_1 + x6_1)) x236001_1) = some (r1, r2) := by rw [if_pos rfl] at H; exact H
                    clear H
                    have H := H1
                    clear H1
                    have H' := Aside0.mk H
                    clear H
                    have p238 : 0 ≤ (x7_1 : Int) := of_decide_eq_true (by first | (with_reducible assumption) | assumption)
                    have q238 : x7_1 < (l1.length : Int) := of_decide_eq_true (by first | (with_reducible assumption) | assumption)
                    obtain ⟨ad238, e238, hx238_0⟩ := Kd.at_bool HR1.out x7_1 p238 q238
                    (try rw [← Nbq19.out] at hx238_0)
                    cases e238
                    replace hx238_0 := (HB.out.cell (World.block_lt_of_cell? w _ hx238_0)).trans hx238_0
                    replace p238 := eq_true p238
                    replace q238 := eq_true q238
                    have hnb21 := NB235_234.out
                    have hnc21 := NB234_235.out
                    have hcz22_0 : wc.cell? ⟨gb235, 0, none⟩ = some (.int .u64 x236000_1) := (blk_cell BK235.out 0).trans rfl
                    have hcz22_1 : wc.cell? ⟨gb235, 1, none⟩ = some (.int .u64 x236001_1) := (blk_cell BK235.out 1).trans rfl
                    have hfz22_0 := blk_frozen BK235.out 0
                    have hfz22_1 := blk_frozen BK235.out 1
                    go_wp2
                    go_roundg kj7
                    case measure => have := HK1.out; have := HJ7.out; omega
                    case rel => exact ⟨(IntKind.u64.wrap (2 * x6_1)), (wrap64 (x7_1 + 1)), (IntKind.u64.wrap (x236000_1 + x6_1)), (x236001_1), (by first | rfl | (simp; done) | (simp [*]; done)), (by first | rfl | (simp; done) | (simp [*]; done)), H', ⟨by have := HK1.out; have := HJ7.out; omega⟩, ⟨by (with_reducible repeat (first | refine blk_drewN ?_ _ | refine blk_drew ?_ | refine blk_alloc ?_ _)); refine blk_far ?_ NB234_235.out _; (with_reducible repeat (first | refine blk_drewN ?_ _ | refine blk_drew ?_ | refine blk_alloc ?_ _)); exact BK234.out⟩, ⟨by (with_reducible repeat (first | refine blk_drewN ?_ _ | refine blk_drew ?_ | refine blk_alloc ?_ _)); refine blk_put (cs := #[.int .u64 x236000_1, .int .u64 x236001_1]) ?_ 0 _ rfl; (with_reducible repeat (first | refine blk_drewN ?_ _ | refine blk_drew ?_ | refine blk_alloc ?_ _)); exact BK235.out⟩, ⟨by repeat (first | (with_reducible first | exact HB.out | apply below_alloc | apply pw_below_drewN | apply below_drew1 | refine below_set ?_ GE234.out | refine below_set ?_ GE235.out) | exact HB.out)⟩⟩
                  · replace c20 := Bool.eq_false_iff.mpr c20
                    subst c20
                    have H1 : (halberdref06_Of.l0 kj7 l0 l1 (IntKind.u64.wrap (2 * x6_1)) (wrap64 (x7_1 + 1)) x236000_1 x236001_1) = some (r1, r2) := by rw [if_neg (show ¬ (false = true) by decide)] at H; exact H
                    clear H
                    have H := H1
                    clear H1
                    have H' := Aside0.mk H
                    clear H
                    have p238 : 0 ≤ (x7_1 : Int) := of_decide_eq_true (by first | (with_reducible assumption) | assumption)
                    have q238 : x7_1 < (l1.length : Int) := of_decide_eq_true (by first | (with_reducible assumption) | assumption)
                    obtain ⟨ad238, e238, hx238_0⟩ := Kd.at_bool HR1.out x7_1 p238 q238
                    (try rw [← Nbq19.out] at hx238_0)
                    cases e238
                    replace hx238_0 := (HB.out.cell (World.block_lt_of_cell? w _ hx238_0)).trans hx238_0
                    replace p238 := eq_true p238
                    replace q238 := eq_true q238
                    go_wp2
                    go_roundg kj7
                    case measure => have := HK1.out; have := HJ7.out; omega
                    case rel => exact ⟨(IntKind.u64.wrap (2 * x6_1)), (wrap64 (x7_1 + 1)), (x236000_1), (x236001_1), (by first | rfl | (simp; done) | (simp [*]; done)), (by first | rfl | (simp; done) | (simp [*]; done)), H', ⟨by have := HK1.out; have := HJ7.out; omega⟩, ⟨by (with_reducible repeat (first | refine blk_drewN ?_ _ | refine blk_drew ?_ | refine blk_alloc ?_ _)); exact BK234.out⟩, ⟨by (with_reducible repeat (first | refine blk_drewN ?_ _ | refine blk_drew ?_ | refine blk_alloc ?_ _)); exact BK235.out⟩, ⟨by repeat (first | (with_reducible first | exact HB.out | apply below_alloc | apply pw_below_drewN | apply below_drew1 | refine below_set ?_ GE234.out | refine below_set ?_ GE235.out) | exact HB.out)⟩⟩
                · rw [if_neg c18] at H
                  exact absurd H (by simp)
              · rw [if_neg c17] at H
                exact absurd H (by simp)
      · rw [if_neg c7] at H
        have c7b0 : decide (x7_1 < 64) = false := decide_eq_false c7
        clear c7
        simp only [Option.some.injEq, Prod.mk.injEq] at H
        obtain ⟨rfl, rfl⟩ := H
        have hnb23 := NB235_234.out
        have hnc23 := NB234_235.out
        have hcz24_0 : wr.cell? ⟨gb235, 0, none⟩ = some (.int .u64 x236000_1) := (blk_cell BK235.out 0).trans rfl
        have hcz24_1 : wr.cell? ⟨gb235, 1, none⟩ = some (.int .u64 x236001_1) := (blk_cell BK235.out 1).trans rfl
        have hfz24_0 := blk_frozen BK235.out 0
        have hfz24_1 := blk_frozen BK235.out 1
        have hcz25_0 : wr.cell? ⟨gb234, 0, none⟩ = some (.int .u64 0) := (blk_cell BK234.out 0).trans rfl
        have hcz25_1 : wr.cell? ⟨gb234, 1, none⟩ = some (.int .u64 0) := (blk_cell BK234.out 1).trans rfl
        have hfz25_0 := blk_frozen BK234.out 0
        have hfz25_1 := blk_frozen BK234.out 1
        go_wp2
        refine bodyPost_ret (results_cell_row rfl _ _ gb234 24 #[.int .u64 x236000_1, .int .u64 x236001_1] (0, 0) _ rfl (by (with_reducible repeat (first | refine blk_drewN ?_ _ | refine blk_drew ?_ | refine blk_alloc ?_ _)); refine blk_put (cs := #[.int .u64 x236000_1, .int .u64 0]) ?_ 1 _ rfl; (with_reducible repeat (first | refine blk_drewN ?_ _ | refine blk_drew ?_ | refine blk_alloc ?_ _)); refine blk_put (cs := #[.int .u64 0, .int .u64 0]) ?_ 0 _ rfl; (with_reducible repeat (first | refine blk_drewN ?_ _ | refine blk_drew ?_ | refine blk_alloc ?_ _)); exact BK234.out) Try.underlying24 rfl (by kernel_rfl)) rfl ?_
        exact ⟨by first | rfl | (simp [errW_none, errW_some] <;> rfl) | (simp [*, errW_none, errW_some] <;> rfl), by repeat (first | (with_reducible first | exact HB.out | apply below_alloc | apply pw_below_drewN | apply below_drew1 | refine below_set ?_ GE234.out | refine below_set ?_ GE235.out) | exact HB.out)⟩

/-! ### halberdref06_Meet: function 58 -/
open Go.Proofs.Hp Go.Proofs.Ev
def halberdref06_Meet.l0 : Nat → List Bool → List Bool → Int → Int → Int → Int → Int → Option (Int × Int × Bool)
  | 0, _, _, _, _, _, _, _ => none
  | k + 1, x6, x7, x8, x240000, x240001, x241000, x241001 => if x8 < 64 then ((halberdref06_Bit.f k x240000 x240001 x8).bind fun bt250 => ((halberdref06_Bit.f k x241000 x241001 x8).bind fun bt252 => (if bt250.1 = true then (if 0 ≤ x8 then (if x8 < (x6.length : Int) then ((some (x6.set (x8 : Int).toNat bt252.1 : List Bool)).bind fun y254 => (if bt250.2 = true then (if x8 < (x7.length : Int) then ((some (x7.set (x8 : Int).toNat bt252.2 : List Bool)).bind fun y255 => (if rdOf false y254 x8 = true then (halberdref06_Meet.l0 k y254 y255 (wrap64 (x8 + 1)) x240000 x240001 x241000 x241001) else (if rdOf false y255 x8 = true then (halberdref06_Meet.l0 k y254 y255 (wrap64 (x8 + 1)) x240000 x240001 x241000 x241001) else (some (0, 18446744073709551615, false))))) else (none)) else (if x8 < (x7.length : Int) then ((some (x7.set (x8 : Int).toNat false : List Bool)).bind fun y258 => (if rdOf false y254 x8 = true then (halberdref06_Meet.l0 k y254 y258 (wrap64 (x8 + 1)) x240000 x240001 x241000 x241001) else (if rdOf false y258 x8 = true then (halberdref06_Meet.l0 k y254 y258 (wrap64 (x8 + 1)) x240000 x240001 x241000 x241001) else (some (0, 18446744073709551615, false))))) else (none)))) else (none)) else (none)) else (if 0 ≤ x8 then (if x8 < (x6.length : Int) then ((some (x6.set (x8 : Int).toNat false : List Bool)).bind fun y261 => (if bt250.2 = true then (if x8 < (x7.length : Int) then ((some (x7.set (x8 : Int).toNat bt252.2 : List Bool)).bind fun y262 => (if rdOf false y261 x8 = true then (halberdref06_Meet.l0 k y261 y262 (wrap64 (x8 + 1)) x240000 x240001 x241000 x241001) else (if rdOf false y262 x8 = true then (halberdref06_Meet.l0 k y261 y262 (wrap64 (x8 + 1)) x240000 x240001 x241000 x241001) else (some (0, 18446744073709551615, false))))) else (none)) else (if x8 < (x7.length : Int) then ((some (x7.set (x8 : Int).toNat false : List Bool)).bind fun y265 => (if rdOf false y261 x8 = true then (halberdref06_Meet.l0 k y261 y265 (wrap64 (x8 + 1)) x240000 x240001 x241000 x241001) else (if rdOf false y265 x8 = true then (halberdref06_Meet.l0 k y261 y265 (wrap64 (x8 + 1)) x240000 x240001 x241000 x241001) else (some (0, 18446744073709551615, false))))) else (none)))) else (none)) else (none))))) else ((halberdref06_Of.f k x6 x7).bind fun bt248 => (some (bt248.1, bt248.2, true)))
def halberdref06_Meet.f (k : Nat) (a0_0 : Int) (a0_1 : Int) (a1_0 : Int) (a1_1 : Int) : Option (Int × Int × Bool) := if 64 ≤ 281474976710656 then (halberdref06_Meet.l0 k (List.replicate 64 false) (List.replicate 64 false) 0 a0_0 a0_1 a1_0 a1_1) else (none)
theorem halberdref06_Meet.mono_l : ∀ k, (∀ y0 y1 y2 y3 y4 y5 y6, LeO (halberdref06_Meet.l0 k y0 y1 y2 y3 y4 y5 y6) (halberdref06_Meet.l0 (k + 1) y0 y1 y2 y3 y4 y5 y6))
  | 0 => fun _ _ _ _ _ _ _ r h => by simp [halberdref06_Meet.l0] at h
  | k + 1 => by
    have ih0 := halberdref06_Meet.mono_l k
    · intro y0 y1 y2 y3 y4 y5 y6
      unfold halberdref06_Meet.l0
      repeat' first
      | (with_reducible exact ih0 _ _ _ _ _ _ _)
      | (with_reducible exact halberdref06_Bit.mono _ _ _ _)
      | (with_reducible exact halberdref06_Of.mono _ _ _)
      | (with_reducible exact LeO.refl _)
      | (with_reducible exact LeO.none _)
      | (with_reducible refine LeO.ite ?_ ?_)
      | (with_reducible refine LeO.bind ?_ (fun _ => ?_))
      | exact ih0 _ _ _ _ _ _ _
      | exact halberdref06_Bit.mono _ _ _ _
      | exact halberdref06_Of.mono _ _ _
      | exact LeO.none _
      | refine LeO.ite ?_ ?_
      | refine LeO.bind ?_ (fun _ => ?_)
theorem halberdref06_Meet.mono : ∀ a0 a1 a2 a3 k, LeO (halberdref06_Meet.f k a0 a1 a2 a3) (halberdref06_Meet.f (k + 1) a0 a1 a2 a3) := by
  intro a0 a1 a2 a3 k
  have ih0 := halberdref06_Meet.mono_l k
  unfold halberdref06_Meet.f
  repeat' first
      | (with_reducible exact ih0 _ _ _ _ _ _ _)
      | (with_reducible exact halberdref06_Bit.mono _ _ _ _)
      | (with_reducible exact halberdref06_Of.mono _ _ _)
      | (with_reducible exact LeO.refl _)
      | (with_reducible exact LeO.none _)
      | (with_reducible refine LeO.ite ?_ ?_)
      | (with_reducible refine LeO.bind ?_ (fun _ => ?_))
      | exact ih0 _ _ _ _ _ _ _
      | exact halberdref06_Bit.mono _ _ _ _
      | exact halberdref06_Of.mono _ _ _
      | exact LeO.none _
      | refine LeO.ite ?_ ?_
      | refine LeO.bind ?_ (fun _ => ?_)
theorem meet_rd (l : List Bool) (i : Int) (b : Bool) (h0 : 0 ≤ i) (h1 : i < 64) (hl : l.length = 64) : rdOf false (l.set i.toNat b) i = b := by
  unfold rdOf
  have : i.toNat < l.length := by omega
  simp [this]
theorem meet_l0 (k : Nat) (zl ol : List Bool) (i a b c d : Int) (h0 : 0 ≤ i) (h1 : i < 64) (hz : zl.length = 64) (ho : ol.length = 64) :
    halberdref06_Meet.l0 (k + 1) zl ol i a b c d = (halberdref06_Bit.f k a b i).bind fun x => (halberdref06_Bit.f k c d i).bind fun y => if ((x.1 && y.1) || (x.2 && y.2)) = true then halberdref06_Meet.l0 k (zl.set i.toNat (x.1 && y.1)) (ol.set i.toNat (x.2 && y.2)) (i + 1) a b c d else some (0, 18446744073709551615, false) := by
  simp only [halberdref06_Meet.l0, if_pos h1]
  have e1 : i < (zl.length : Int) := by omega
  have e2 : i < (ol.length : Int) := by omega
  have ew : wrap64 (i + 1) = i + 1 := by unfold wrap64; omega
  refine congrArg _ (funext fun x => congrArg _ (funext fun y => ?_))
  obtain ⟨x1, x2⟩ := x
  obtain ⟨y1, y2⟩ := y
  simp only [if_pos h0, if_pos e1, if_pos e2, ew, Option.bind_some, meet_rd _ i _ h0 h1 hz, meet_rd _ i _ h0 h1 ho]
  cases x1 <;> cases x2 <;> cases y1 <;> cases y2 <;> rfl
theorem meet_end (k : Nat) (zl ol : List Bool) (i a b c d : Int) (h1 : ¬ i < 64) : halberdref06_Meet.l0 (k + 1) zl ol i a b c d = (halberdref06_Of.f k zl ol).bind fun t => some (t.1, t.2, true) := by
  simp only [halberdref06_Meet.l0, if_neg h1]
theorem meet_cells (b : Bool) (l : List Bool) (n : Nat) : (l.map Value.bool).toArray.setIfInBounds n (.bool b) = ((l.set n b).map Value.bool).toArray := by simp
theorem meet_at (b : Bool) (l : List Bool) (n : Nat) (h : n < l.length) : ((l.map Value.bool).toArray.setIfInBounds n (.bool b))[n]? = some (.bool b) := by simp [h]
theorem meet_in {l : List Bool} {i : Int} (h : l.length = 64) (h0 : 0 ≤ i) (h1 : i < 64) : i.toNat < ((l.map Value.bool).toArray).size := by
  simp only [List.size_toArray, List.length_map]
  omega
theorem meet_C {e : TypeId} {w : World} {g : Nat} (l : List Bool) (hb : w.heap[g]? = some (.cells (l.map Value.bool).toArray e (0, 0))) (hn : l.length ≤ 9223372036854775807) :
    Kd.C Kd.bool w (some ⟨g, 0, none⟩) l.length l := by
  have h : Kd.R Kd.bool e w 0 (fun _ => True) (.slice (some ⟨g, 0, none⟩) l.length l.length) l := by
    refine Kd.R_of_own (enc := Value.bool) ⟨by simp [encs], .inr ⟨g, l.length, _, rfl, Nat.zero_le _, hb, Nat.le_refl _, hn, by simp, ?_⟩⟩ (fun k hk => trivial)
    show List.take (l.length * 1) (l.map Value.bool) = l.map Value.bool
    exact List.take_of_length_le (by simp)
  exact (Kd.R_reads' h).2.2
section
variable {P : Program} {ops : Array Oper} {o : Oper} {a : Act} {Q : Exit → Act → World → Prop} {Kc : Act → World → Prop} {w0 W : World} {L : Hl}
theorem meet_lit (HO : Own w0 W L) (hw : Region.wanted o (yielded ops a.tmps) = true) {N : Tmp} (hd : o.dst = some N) {cs : Array Value} {t : TypeId} {n : Nat}
    (hrun : (execOp a.eval o).run P W = .ok (.value (.slice (some ⟨W.heap.size, 0, none⟩) n n)) (W.alloc (.cells cs t (0, 0))))
    (h : ∀ g w1, Own w0 w1 ((g, .cells cs t (0, 0)) :: L) → Kc (a.put (some N) (.slice (some ⟨g, 0, none⟩) n n)) w1) : if Region.wanted o (yielded ops a.tmps) = true then Oper.wp P o a W Kc Q else Kc (a.put (some N) undef) W := by
  rw [← hd] at h ⊢
  exact event_step hw hrun (h _ _ (HO.alloc _))
end
theorem meet_of (k : Nat) {e1 e2 : TypeId} {g7 g8 : Nat} {zl ol : List Bool} {r1 r2 : Int} {W : World} (h1 : W.heap[g7]? = some (.cells (zl.map Value.bool).toArray e1 (0, 0))) (h2 : W.heap[g8]? = some (.cells (ol.map Value.bool).toArray e2 (0, 0))) (hz : zl.length = 64) (ho : ol.length = 64) (h : halberdref06_Of.f k zl ol = some (r1, r2)) :
    Calls Try.prog 88 #[.slice (some ⟨g7, 0, none⟩) 64 64, .slice (some ⟨g8, 0, none⟩) 64 64] W fun e w' => e = .returned (.agg #[.int .u64 r1, .int .u64 r2]) ∧ Below W.heap.size W w' := by
  have hc_ := halberdref06_Of.calls k _ 64 zl _ 64 ol r1 r2 _ (meet_C zl h1 (by omega)) (by omega) (meet_C ol h2 (by omega)) (by omega) h
  rw [hz, ho] at hc_
  exact hc_
set_option maxHeartbeats 8000000 in
set_option maxRecDepth 100000 in
theorem halberdref06_Meet.calls (k : Nat) (a0_0 : Int) (a0_1 : Int) (a1_0 : Int) (a1_1 : Int) (r1 : Int) (r2 : Int) (r3 : Bool) (w : World) (h : halberdref06_Meet.f k a0_0 a0_1 a1_0 a1_1 = some (r1, r2, r3)) :
    Calls Try.prog 58 #[.agg #[.int .u64 a0_0, .int .u64 a0_1], .agg #[.int .u64 a1_0, .int .u64 a1_1]] w fun e w' => e = .returned (.tuple #[.agg #[.int .u64 r1, .int .u64 r2], .bool r3]) ∧ Below w.heap.size w w' := by
  have hu := Try.underlying24
  have hu3 := Try.underlying4
  have HO := Aside0.mk (Own.refl w)
  unfold halberdref06_Meet.f at h
  rw [if_pos (by decide)] at h
  have HG := Aside0.mk h
  clear h
  go_enter Try.func58, Try.ntmps58
  try go_wp2_with (first | ((with_reducible refine gate_dst (N := 2) rfl ?_); refine own_box HO.out ?hg (N := 2) ?hd (cs := #[.int .u64 a0_0, .int .u64 a0_1]) (t := 24) ?hr ?_; (case hd => rfl); (case hg => rfl); (case hr => first | (go_simp; done) | (go_simp; rfl) | kernel_rfl); intro g2 w2 hO_; clear HO; have HO := Aside0.mk hO_; clear hO_) | ((with_reducible refine gate_dst (N := 3) rfl ?_); refine own_box HO.out ?hg (N := 3) ?hd (cs := #[.int .u64 a1_0, .int .u64 a1_1]) (t := 24) ?hr ?_; (case hd => rfl); (case hg => rfl); (case hr => first | (go_simp; done) | (go_simp; rfl) | kernel_rfl); intro g3 w3 hO_; clear HO; have HO := Aside0.mk hO_; clear hO_) | ((with_reducible refine gate_dst (N := 4) rfl ?_); refine own_box HO.out ?hg (N := 4) ?hd (cs := #[.int .u64 0, .int .u64 0]) (t := 24) ?hr ?_; (case hd => rfl); (case hg => rfl); (case hr => first | (go_simp; done) | (go_simp; rfl) | kernel_rfl); intro g4 w4 hO_; clear HO; have HO := Aside0.mk hO_; clear hO_))
  have n0_ := Aside0.mk HO.out.drew
  clear HO
  have HO := n0_
  clear n0_
  refine start_ (n := 4) (S := fun w' => True) (ds := []) #[false, false, false, false] (by kernel_rfl) rfl rfl trivial (fun hHeld => ?_)
  generalize World.drew _ = wr at HO hHeld ⊢
  refine join_ (σ := Nat × Nat) 1 #[true, true, true, false] (fun s_ => [(13, .slice (some ⟨s_.1, 0, none⟩) 64 64), (14, .slice (some ⟨s_.2, 0, none⟩) 64 64), (6, .slice (some ⟨s_.1, 0, none⟩) 64 64)]) (fun s_ w' => Own w w' [(s_.1, .cells ((List.replicate 64 false).map Value.bool).toArray 4 (0, 0)), (s_.2, .cells ((List.replicate 64 false).map Value.bool).toArray 4 (0, 0)), (g4, .cells #[.int .u64 0, .int .u64 0] 24 (0, 0)), (g3, .cells #[.int .u64 a1_0, .int .u64 a1_1] 24 (0, 0)), (g2, .cells #[.int .u64 a0_0, .int .u64 a0_1] 24 (0, 0))]) ?_ ?_
  rotate_left
  · intro hCont
    refine two_ (i := 0) (j := 1) (Ni := some 13) (Nj := some 14) #[true, false, false, false] #[false, true, false, false] rfl rfl rfl rfl (by kernel_rfl) (by decide) (by decide) (fun K hK => ?_) (fun K hK => ?_)
    · skip
      refine meet_lit HO.out rfl (N := 13) rfl (cs := ((List.replicate 64 false).map Value.bool).toArray) (t := 4) (n := 64) (by kernel_rfl) ?_
      intro g6 w13 hO_
      clear HO; have HO := Aside0.mk hO_; clear hO_
      refine hK.out _ _ trivial (fun hHeld => ?_)
      clear hK K
      refine norm_ (a' := ?_) ?_ ?_
      rotate_left
      · show Act.put _ (some 13) _ = _
        simp only [Act.put, List.setIfInBounds_toArray, List.set_cons_zero, List.set_cons_succ]
        rfl
      refine Hp.pu_ 2 6 #[true, false, true, false] ?_
      refine one_ (i := 1) (N := some 14) #[true, true, true, false] rfl rfl (by kernel_rfl) (by decide) (fun K hK => ?_)
      refine meet_lit HO.out rfl (N := 14) rfl (cs := ((List.replicate 64 false).map Value.bool).toArray) (t := 4) (n := 64) (by kernel_rfl) ?_
      intro g7 w14 hO_
      clear HO; have HO := Aside0.mk hO_; clear hO_
      refine hK.out _ _ trivial (fun hHeld => ?_)
      clear hK K
      refine norm_ (a' := ?_) ?_ ?_
      rotate_left
      · show Act.put _ (some 14) _ = _
        simp only [Act.put, List.setIfInBounds_toArray, List.set_cons_zero, List.set_cons_succ]
        rfl
      exact norm_ (by simp only [putAll, Act.put, List.setIfInBounds_toArray, List.set_cons_zero, List.set_cons_succ]) (hCont (g6, g7) _ (HO.out.picks (.cons (by (repeat (first | exact .head | apply Ext.tail))) (.cons (by (repeat (first | exact .head | apply Ext.tail))) (.cons (by (repeat (first | exact .head | apply Ext.tail))) (.cons (by (repeat (first | exact .head | apply Ext.tail))) (.cons (by (repeat (first | exact .head | apply Ext.tail))) (.nil))))))))
    · skip
      refine meet_lit HO.out rfl (N := 14) rfl (cs := ((List.replicate 64 false).map Value.bool).toArray) (t := 4) (n := 64) (by kernel_rfl) ?_
      intro g7 w14 hO_
      clear HO; have HO := Aside0.mk hO_; clear hO_
      refine hK.out _ _ trivial (fun hHeld => ?_)
      clear hK K
      refine norm_ (a' := ?_) ?_ ?_
      rotate_left
      · show Act.put _ (some 14) _ = _
        simp only [Act.put, List.setIfInBounds_toArray, List.set_cons_zero, List.set_cons_succ]
        rfl
      refine one_ (i := 0) (N := some 13) #[true, true, false, false] rfl rfl (by kernel_rfl) (by decide) (fun K hK => ?_)
      refine meet_lit HO.out rfl (N := 13) rfl (cs := ((List.replicate 64 false).map Value.bool).toArray) (t := 4) (n := 64) (by kernel_rfl) ?_
      intro g6 w13 hO_
      clear HO; have HO := Aside0.mk hO_; clear hO_
      refine hK.out _ _ trivial (fun hHeld => ?_)
      clear hK K
      refine norm_ (a' := ?_) ?_ ?_
      rotate_left
      · show Act.put _ (some 13) _ = _
        simp only [Act.put, List.setIfInBounds_toArray, List.set_cons_zero, List.set_cons_succ]
        rfl
      refine Hp.pu_ 2 6 #[true, true, true, false] ?_
      exact norm_ (by simp only [putAll, Act.put, List.setIfInBounds_toArray, List.set_cons_zero, List.set_cons_succ]) (hCont (g6, g7) _ (HO.out.picks (.cons (by (repeat (first | exact .head | apply Ext.tail))) (.cons (by (repeat (first | exact .head | apply Ext.tail))) (.cons (by (repeat (first | exact .head | apply Ext.tail))) (.cons (by (repeat (first | exact .head | apply Ext.tail))) (.cons (by (repeat (first | exact .head | apply Ext.tail))) (.nil))))))))
  rintro ⟨g6, g7⟩ w1 hO_
  clear HO
  have HO := Aside0.mk hO_
  clear hO_ hHeld
  refine norm_ (a' := ?_) ?_ ?_
  rotate_left
  · simp only [putAll, Act.put, List.setIfInBounds_toArray, List.set_cons_zero, List.set_cons_succ]
    rfl
  refine Hp.pu_ 3 7 #[true, true, true, true] ?_
  refine done_ (by kernel_rfl) ?_
  try go_wp2
  go_loopg [8] k (fun kq v8 w' => ∃ (zl ol : List Bool) (i : Int), v8 = .int .i64 i ∧ Aside0 (halberdref06_Meet.l0 kq zl ol i a0_0 a0_1 a1_0 a1_1 = some (r1, r2, r3)) ∧ Aside0 (kq ≤ k) ∧ Aside0 (0 ≤ i ∧ i ≤ 64) ∧ Aside0 (zl.length = 64 ∧ ol.length = 64) ∧ Aside0 (Own w w' [(g6, .cells ((zl).map Value.bool).toArray 4 (0, 0)), (g7, .cells ((ol).map Value.bool).toArray 4 (0, 0)), (g4, .cells #[.int .u64 0, .int .u64 0] 24 (0, 0)), (g3, .cells #[.int .u64 a1_0, .int .u64 a1_1] 24 (0, 0)), (g2, .cells #[.int .u64 a0_0, .int .u64 a0_1] 24 (0, 0))]))
  case atStart => exact ⟨List.replicate 64 false, List.replicate 64 false, 0, rfl, HG, ⟨Nat.le_refl _⟩, ⟨⟨by omega, by omega⟩⟩, ⟨⟨by simp, by simp⟩⟩, ⟨HO.out.picks (.cons (by (repeat (first | exact .head | apply Ext.tail))) (.cons (by (repeat (first | exact .head | apply Ext.tail))) (.cons (by (repeat (first | exact .head | apply Ext.tail))) (.cons (by (repeat (first | exact .head | apply Ext.tail))) (.cons (by (repeat (first | exact .head | apply Ext.tail))) (.nil))))))⟩⟩
  case round =>
    clear HG HO
    obtain ⟨zl, ol, i, rfl, HG, HK, HI, HLs, HO⟩ := hrel
    cases gk with
    | zero => exact absurd HG.out (by simp [halberdref06_Meet.l0])
    | succ k1 =>
      have H := HG.out
      clear HG
      by_cases hi : i < 64
      rotate_left
      · rw [meet_end k1 _ _ _ _ _ _ _ hi] at H
        obtain ⟨⟨t1, t2⟩, hof, H⟩ := Option.bind_eq_some_iff.mp H
        have HOf := Aside0.mk hof
        clear hof
        obtain ⟨rfl, rfl, rfl⟩ : t1 = r1 ∧ t2 = r2 ∧ true = r3 := by simpa using H
        clear H
        have d0 : decide (i < 64) = false := decide_eq_false hi
        clear hi
        go_wp2_with (first | ((with_reducible refine gate_callee (f := 88) rfl ?_); (with_reducible refine gate_dst (N := 60) rfl ?_); refine goesL_ (some 60) rfl rfl Try.func88 (by kernel_rfl) rfl #[.slice (some ⟨g6, 0, none⟩) 64 64, .slice (some ⟨g7, 0, none⟩) 64 64] rfl (by (try simp only [List.map_toArray, List.map_cons, List.map_nil]); first | done | rfl) ?_; (with_reducible refine (meet_of k1 (HO.out.get (by (repeat (first | exact .head | apply Ext.tail)))) (HO.out.get (by (repeat (first | exact .head | apply Ext.tail)))) HLs.out.1 HLs.out.2 HOf.out).mono ?_); rintro e wx ⟨rfl, hb⟩; refine ⟨_, rfl, ?_⟩; have hO_ := HO.out.below hb; clear hb; clear HO; have HO := Aside0.mk hO_; clear hO_) | ((with_reducible refine gate_store (p := 4) rfl ?_); refine own_wstore HO.out rfl (ty := 24) (x := .tmp 4) (y := .tmp 60) (cs := #[.int .u64 t1, .int .u64 t2]) rfl (by rfl) (by rfl) (by (repeat (first | exact .head | apply Ext.tail))) (by kernel_rfl) (by rfl) (by kernel_rfl) ?_; intro wc hO_; clear HO; have HO := Aside0.mk hO_; clear hO_))
        refine bodyPost_ret (results_ct rfl _ _ g4 24 #[.int .u64 t1, .int .u64 t2] (0, 0) _ rfl (HO.out.get (by (repeat (first | exact .head | apply Ext.tail)))) Try.underlying24 rfl (by kernel_rfl)) rfl ?_
        exact ⟨rfl, HO.out.bel⟩
      · rw [meet_l0 k1 _ _ _ _ _ _ _ HI.out.1 hi HLs.out.1 HLs.out.2] at H
        obtain ⟨⟨x0, x1⟩, hx, H_⟩ := Option.bind_eq_some_iff.mp H
        clear H
        obtain ⟨⟨y0, y1⟩, hy, H⟩ := Option.bind_eq_some_iff.mp H_
        clear H_
        have HX := Aside0.mk hx
        have HY := Aside0.mk hy
        have HI2 := Aside0.mk hi
        have p1 : (0 ≤ i) = True := eq_true HI.out.1
        have q1 : (i < 64) = True := eq_true hi
        have d0 : decide (i < 64) = true := decide_eq_true hi
        clear hx hy hi
        by_cases hc : ((x0 && y0) || (x1 && y1)) = true
        · rw [if_pos hc] at H
          have HN := Aside0.mk H
          clear H
          cases x0 <;> cases x1 <;> cases y0 <;> cases y1 <;> (try exact absurd hc (by decide)) <;>
          (clear hc
           go_wp2_with (first | ((with_reducible refine gate_dst (N := 20) rfl ?_); refine own_wload HO.out rfl (x := .tmp 2) rfl (by rfl) (by (repeat (first | exact .head | apply Ext.tail))) Try.underlying24 (by rfl) (by kernel_rfl) ?_) | ((with_reducible refine gate_dst (N := 26) rfl ?_); refine own_wload HO.out rfl (x := .tmp 3) rfl (by rfl) (by (repeat (first | exact .head | apply Ext.tail))) Try.underlying24 (by rfl) (by kernel_rfl) ?_) | ((with_reducible refine gate_callee (f := 56) rfl ?_); (with_reducible refine gate_dst (N := 22) rfl ?_); refine goesL_ (some 22) rfl rfl Try.func56 (by kernel_rfl) rfl #[.agg #[.int .u64 a0_0, .int .u64 a0_1], .int .i64 i] rfl (by (try simp only [List.map_toArray, List.map_cons, List.map_nil]); first | done | rfl) ?_; (with_reducible refine (halberdref06_Bit.calls k1 a0_0 a0_1 i _ _ _ HX.out).mono ?_); rintro e wx ⟨rfl, hb⟩; refine ⟨_, rfl, ?_⟩; have hO_ := HO.out.below hb; clear hb; clear HO; have HO := Aside0.mk hO_; clear hO_) | ((with_reducible refine gate_callee (f := 56) rfl ?_); (with_reducible refine gate_dst (N := 28) rfl ?_); refine goesL_ (some 28) rfl rfl Try.func56 (by kernel_rfl) rfl #[.agg #[.int .u64 a1_0, .int .u64 a1_1], .int .i64 i] rfl (by (try simp only [List.map_toArray, List.map_cons, List.map_nil]); first | done | rfl) ?_; (with_reducible refine (halberdref06_Bit.calls k1 a1_0 a1_1 i _ _ _ HY.out).mono ?_); rintro e wx ⟨rfl, hb⟩; refine ⟨_, rfl, ?_⟩; have hO_ := HO.out.below hb; clear hb; clear HO; have HO := Aside0.mk hO_; clear hO_) | ((with_reducible refine gate_store (p := 37) rfl ?_); refine own_store HO.out rfl (ty := 4) (x := .tmp 37) (y := .tmp 36) (v := .bool _) (j := i.toNat) rfl ?hx rfl (by (repeat (first | exact .head | apply Ext.tail))) (by kernel_rfl) (by rfl) (meet_in HLs.out.1 HI.out.1 HI2.out) rfl ?_; (case hx => first | rfl | (go_simp; done) | (go_simp; rfl)); intro wc hO_; clear HO; have HO := Aside0.mk hO_; clear hO_) | ((with_reducible refine gate_store (p := 44) rfl ?_); refine own_store HO.out rfl (ty := 4) (x := .tmp 44) (y := .tmp 43) (v := .bool _) (j := i.toNat) rfl ?hx rfl (by (repeat (first | exact .head | apply Ext.tail))) (by kernel_rfl) (by rfl) (meet_in HLs.out.2 HI.out.1 HI2.out) rfl ?_; (case hx => first | rfl | (go_simp; done) | (go_simp; rfl)); intro wc hO_; clear HO; have HO := Aside0.mk hO_; clear hO_; have hk6 : World.cell? _ ⟨g6, i.toNat, none⟩ = some _ := (HO.out.cell (by (repeat (first | exact .head | apply Ext.tail))) i.toNat).trans (meet_at _ zl _ (by have := HLs.out.1; have := HI.out.1; have := HI2.out; omega)); have hk7 : World.cell? _ ⟨g7, i.toNat, none⟩ = some _ := (HO.out.cell (by (repeat (first | exact .head | apply Ext.tail))) i.toNat).trans (meet_at _ ol _ (by have := HLs.out.2; have := HI.out.1; have := HI2.out; omega))) | ((with_reducible refine gate_store (p := 4) rfl ?_); refine own_wstore HO.out rfl (ty := 24) (x := .tmp 4) (y := .tmp 57) (cs := #[.int .u64 0, .int .u64 18446744073709551615]) rfl (by rfl) (by rfl) (by (repeat (first | exact .head | apply Ext.tail))) (by kernel_rfl) (by rfl) (by kernel_rfl) ?_; intro wc hO_; clear HO; have HO := Aside0.mk hO_; clear hO_))
           go_roundg k1
           case measure => omega
           case rel => exact ⟨_, _, i + 1, congrArg (Value.int .i64) (show wrap64 (i + 1) = i + 1 by have := HI.out; have := HI2.out; unfold wrap64; omega), HN, ⟨by have := HK.out; omega⟩, ⟨by have := HI.out; have := HI2.out; omega⟩, ⟨⟨List.length_set.trans HLs.out.1, List.length_set.trans HLs.out.2⟩⟩, ⟨by have hO_ := HO.out; simp only [meet_cells] at hO_; exact hO_.picks (.cons (by (repeat (first | exact .head | apply Ext.tail))) (.cons (by (repeat (first | exact .head | apply Ext.tail))) (.cons (by (repeat (first | exact .head | apply Ext.tail))) (.cons (by (repeat (first | exact .head | apply Ext.tail))) (.cons (by (repeat (first | exact .head | apply Ext.tail))) (.nil))))))⟩⟩)
        · rw [if_neg hc] at H
          obtain ⟨rfl, rfl, rfl⟩ : 0 = r1 ∧ 18446744073709551615 = r2 ∧ false = r3 := by simpa using H
          clear H
          cases x0 <;> cases x1 <;> cases y0 <;> cases y1 <;> (try exact absurd (by decide) hc) <;>
          (clear hc
           go_wp2_with (first | ((with_reducible refine gate_dst (N := 20) rfl ?_); refine own_wload HO.out rfl (x := .tmp 2) rfl (by rfl) (by (repeat (first | exact .head | apply Ext.tail))) Try.underlying24 (by rfl) (by kernel_rfl) ?_) | ((with_reducible refine gate_dst (N := 26) rfl ?_); refine own_wload HO.out rfl (x := .tmp 3) rfl (by rfl) (by (repeat (first | exact .head | apply Ext.tail))) Try.underlying24 (by rfl) (by kernel_rfl) ?_) | ((with_reducible refine gate_callee (f := 56) rfl ?_); (with_reducible refine gate_dst (N := 22) rfl ?_); refine goesL_ (some 22) rfl rfl Try.func56 (by kernel_rfl) rfl #[.agg #[.int .u64 a0_0, .int .u64 a0_1], .int .i64 i] rfl (by (try simp only [List.map_toArray, List.map_cons, List.map_nil]); first | done | rfl) ?_; (with_reducible refine (halberdref06_Bit.calls k1 a0_0 a0_1 i _ _ _ HX.out).mono ?_); rintro e wx ⟨rfl, hb⟩; refine ⟨_, rfl, ?_⟩; have hO_ := HO.out.below hb; clear hb; clear HO; have HO := Aside0.mk hO_; clear hO_) | ((with_reducible refine gate_callee (f := 56) rfl ?_); (with_reducible refine gate_dst (N := 28) rfl ?_); refine goesL_ (some 28) rfl rfl Try.func56 (by kernel_rfl) rfl #[.agg #[.int .u64 a1_0, .int .u64 a1_1], .int .i64 i] rfl (by (try simp only [List.map_toArray, List.map_cons, List.map_nil]); first | done | rfl) ?_; (with_reducible refine (halberdref06_Bit.calls k1 a1_0 a1_1 i _ _ _ HY.out).mono ?_); rintro e wx ⟨rfl, hb⟩; refine ⟨_, rfl, ?_⟩; have hO_ := HO.out.below hb; clear hb; clear HO; have HO := Aside0.mk hO_; clear hO_) | ((with_reducible refine gate_store (p := 37) rfl ?_); refine own_store HO.out rfl (ty := 4) (x := .tmp 37) (y := .tmp 36) (v := .bool _) (j := i.toNat) rfl ?hx rfl (by (repeat (first | exact .head | apply Ext.tail))) (by kernel_rfl) (by rfl) (meet_in HLs.out.1 HI.out.1 HI2.out) rfl ?_; (case hx => first | rfl | (go_simp; done) | (go_simp; rfl)); intro wc hO_; clear HO; have HO := Aside0.mk hO_; clear hO_) | ((with_reducible refine gate_store (p := 44) rfl ?_); refine own_store HO.out rfl (ty := 4) (x := .tmp 44) (y := .tmp 43) (v := .bool _) (j := i.toNat) rfl ?hx rfl (by (repeat (first | exact .head | apply Ext.tail))) (by kernel_rfl) (by rfl) (meet_in HLs.out.2 HI.out.1 HI2.out) rfl ?_; (case hx => first | rfl | (go_simp; done) | (go_simp; rfl)); intro wc hO_; clear HO; have HO := Aside0.mk hO_; clear hO_; have hk6 : World.cell? _ ⟨g6, i.toNat, none⟩ = some _ := (HO.out.cell (by (repeat (first | exact .head | apply Ext.tail))) i.toNat).trans (meet_at _ zl _ (by have := HLs.out.1; have := HI.out.1; have := HI2.out; omega)); have hk7 : World.cell? _ ⟨g7, i.toNat, none⟩ = some _ := (HO.out.cell (by (repeat (first | exact .head | apply Ext.tail))) i.toNat).trans (meet_at _ ol _ (by have := HLs.out.2; have := HI.out.1; have := HI2.out; omega))) | ((with_reducible refine gate_store (p := 4) rfl ?_); refine own_wstore HO.out rfl (ty := 24) (x := .tmp 4) (y := .tmp 57) (cs := #[.int .u64 0, .int .u64 18446744073709551615]) rfl (by rfl) (by rfl) (by (repeat (first | exact .head | apply Ext.tail))) (by kernel_rfl) (by rfl) (by kernel_rfl) ?_; intro wc hO_; clear HO; have HO := Aside0.mk hO_; clear hO_))
           refine bodyPost_ret (results_ct rfl _ _ g4 24 #[.int .u64 0, .int .u64 18446744073709551615] (0, 0) _ rfl (HO.out.get (by (repeat (first | exact .head | apply Ext.tail)))) Try.underlying24 rfl (by kernel_rfl)) rfl ?_
           exact ⟨rfl, HO.out.bel⟩)


/-! ### halberdref06_Range: function 59 -/
def halberdref06_Range.l0 : Nat → Int → Int → Int → Int → Option (Int × Int)
  | 0, _, _, _, _ => none
  | k + 1, x0, x1, x5, x6 => if x5 = 0 then (none) else (if (IntKind.u64.wrap (Int.tdiv x0 x5)) = (IntKind.u64.wrap (Int.tdiv x1 x5)) then (some (IntKind.u64.wrap ((IntKind.u64.wrap (Int.tdiv x0 x5)) * x5), x6)) else (if x5 = 9223372036854775808 then (some (0, IntKind.u64.wrap (x6 + x5))) else (halberdref06_Range.l0 k x0 x1 (IntKind.u64.wrap (2 * x5)) (IntKind.u64.wrap (x6 + x5)))))
def halberdref06_Range.f (k : Nat) (a0 : Int) (a1 : Int) : Option (Int × Int) := if a1 < a0 then (some (0, 18446744073709551615)) else (halberdref06_Range.l0 k a0 a1 1 0)
theorem halberdref06_Range.mono_l : ∀ k, (∀ y0 y1 y2 y3, LeO (halberdref06_Range.l0 k y0 y1 y2 y3) (halberdref06_Range.l0 (k + 1) y0 y1 y2 y3))
  | 0 => fun _ _ _ _ r h => by simp [halberdref06_Range.l0] at h
  | k + 1 => by
    have ih0 := halberdref06_Range.mono_l k
    · intro y0 y1 y2 y3
      unfold halberdref06_Range.l0
      repeat' first
      | (with_reducible exact ih0 _ _ _ _)
      | (with_reducible exact LeO.refl _)
      | (with_reducible exact LeO.none _)
      | (with_reducible refine LeO.ite ?_ ?_)
      | (with_reducible refine LeO.bind ?_ (fun _ => ?_))
      | exact ih0 _ _ _ _
      | exact LeO.none _
      | refine LeO.ite ?_ ?_
      | refine LeO.bind ?_ (fun _ => ?_)
theorem halberdref06_Range.mono : ∀ a0 a1 k, LeO (halberdref06_Range.f k a0 a1) (halberdref06_Range.f (k + 1) a0 a1) := by
  intro a0 a1 k
  have ih0 := halberdref06_Range.mono_l k
  unfold halberdref06_Range.f
  repeat' first
      | (with_reducible exact ih0 _ _ _ _)
      | (with_reducible exact LeO.refl _)
      | (with_reducible exact LeO.none _)
      | (with_reducible refine LeO.ite ?_ ?_)
      | (with_reducible refine LeO.bind ?_ (fun _ => ?_))
      | exact ih0 _ _ _ _
      | exact LeO.none _
      | refine LeO.ite ?_ ?_
      | refine LeO.bind ?_ (fun _ => ?_)
set_option maxHeartbeats 8000000 in
set_option maxRecDepth 100000 in
theorem halberdref06_Range.calls (k : Nat) (a0 : Int) (a1 : Int) (r1 : Int) (r2 : Int) (w : World) (h : halberdref06_Range.f k a0 a1 = some (r1, r2)) :
    Calls Try.prog 59 #[.int .u64 a0, .int .u64 a1] w fun e w' => e = .returned (.agg #[.int .u64 r1, .int .u64 r2]) ∧ Below w.heap.size w w' := by
  have hu24 := Try.underlying24
  have HB := Aside0.mk (Below.refl w.heap.size w)
  have H : (if a1 < a0 then (some (0, 18446744073709551615)) else (halberdref06_Range.l0 k a0 a1 1 0)) = some (r1, r2) := h
  clear h
  by_cases c3 : a1 < a0
  · rw [if_pos c3] at H
    have c3b0 : decide (a1 < a0) = true := decide_eq_true c3
    clear c3
    simp only [Option.some.injEq, Prod.mk.injEq] at H
    obtain ⟨rfl, rfl⟩ := H
    go_enter Try.func59, Try.ntmps59
    go_wp2_with (first | ((with_reducible refine gate_dst (N := 4) rfl ?_); refine box_event ?hg (N := 4) ?hd (cs := #[.int .u64 0, .int .u64 0]) (t := 24) ?hr ?_; (case hd => rfl); (case hg => rfl); (case hr => first | (go_simp; done) | (go_simp; rfl)); intro gb239 hg w4 hbox hb; have n0_ := Aside0.mk (below_step (by repeat (first | (with_reducible first | exact HB.out | apply below_alloc | apply pw_below_drewN | apply below_drew1) | exact HB.out)) hb); have n1_ := Aside0.mk (hbox); have n2_ := Aside0.mk ((by rw [hg]; exact (below_size (by repeat (first | (with_reducible first | exact HB.out | apply below_alloc | apply pw_below_drewN | apply below_drew1) | exact HB.out))) : w.heap.size ≤ gb239)); have n3_ := Aside0.mk ((by rw [hg]; exact (below_size (by repeat (first | (with_reducible first | exact HB.out | apply below_alloc | apply pw_below_drewN | apply below_drew1) | exact HB.out))) : w.heap.size ≤ gb239)); clear HB; have HB := n0_; have BK239 := n1_; have GW239 := n2_; have GE239 := n3_; clear n0_ n1_ n2_ n3_; clear hb hbox hg; have hcz5_0 : w4.cell? ⟨gb239, 0, none⟩ = some (.int .u64 0) := (blk_cell BK239.out 0).trans rfl; have hcz5_1 : w4.cell? ⟨gb239, 1, none⟩ = some (.int .u64 0) := (blk_cell BK239.out 1).trans rfl; have hfz5_0 := blk_frozen BK239.out 0; have hfz5_1 := blk_frozen BK239.out 1))
    repeat (go_quiet (first | ((with_reducible refine gate_dst (N := 4) rfl ?_); refine box_event ?hg (N := 4) ?hd (cs := #[.int .u64 0, .int .u64 0]) (t := 24) ?hr ?_; (case hd => rfl); (case hg => rfl); (case hr => first | (go_simp; done) | (go_simp; rfl)); intro gb239 hg w4 hbox hb; have n0_ := Aside0.mk (below_step (by repeat (first | (with_reducible first | exact HB.out | apply below_alloc | apply pw_below_drewN | apply below_drew1) | exact HB.out)) hb); have n1_ := Aside0.mk (hbox); have n2_ := Aside0.mk ((by rw [hg]; exact (below_size (by repeat (first | (with_reducible first | exact HB.out | apply below_alloc | apply pw_below_drewN | apply below_drew1) | exact HB.out))) : w.heap.size ≤ gb239)); have n3_ := Aside0.mk ((by rw [hg]; exact (below_size (by repeat (first | (with_reducible first | exact HB.out | apply below_alloc | apply pw_below_drewN | apply below_drew1) | exact HB.out))) : w.heap.size ≤ gb239)); clear HB; have HB := n0_; have BK239 := n1_; have GW239 := n2_; have GE239 := n3_; clear n0_ n1_ n2_ n3_; clear hb hbox hg; have hcz5_0 : w4.cell? ⟨gb239, 0, none⟩ = some (.int .u64 0) := (blk_cell BK239.out 0).trans rfl; have hcz5_1 : w4.cell? ⟨gb239, 1, none⟩ = some (.int .u64 0) := (blk_cell BK239.out 1).trans rfl; have hfz5_0 := blk_frozen BK239.out 0; have hfz5_1 := blk_frozen BK239.out 1)); try go_wp2_with (first | ((with_reducible refine gate_dst (N := 4) rfl ?_); refine box_event ?hg (N := 4) ?hd (cs := #[.int .u64 0, .int .u64 0]) (t := 24) ?hr ?_; (case hd => rfl); (case hg => rfl); (case hr => first | (go_simp; done) | (go_simp; rfl)); intro gb239 hg w4 hbox hb; have n0_ := Aside0.mk (below_step (by repeat (first | (with_reducible first | exact HB.out | apply below_alloc | apply pw_below_drewN | apply below_drew1) | exact HB.out)) hb); have n1_ := Aside0.mk (hbox); have n2_ := Aside0.mk ((by rw [hg]; exact (below_size (by repeat (first | (with_reducible first | exact HB.out | apply below_alloc | apply pw_below_drewN | apply below_drew1) | exact HB.out))) : w.heap.size ≤ gb239)); have n3_ := Aside0.mk ((by rw [hg]; exact (below_size (by repeat (first | (with_reducible first | exact HB.out | apply below_alloc | apply pw_below_drewN | apply below_drew1) | exact HB.out))) : w.heap.size ≤ gb239)); clear HB; have HB := n0_; have BK239 := n1_; have GW239 := n2_; have GE239 := n3_; clear n0_ n1_ n2_ n3_; clear hb hbox hg; have hcz5_0 : w4.cell? ⟨gb239, 0, none⟩ = some (.int .u64 0) := (blk_cell BK239.out 0).trans rfl; have hcz5_1 : w4.cell? ⟨gb239, 1, none⟩ = some (.int .u64 0) := (blk_cell BK239.out 1).trans rfl; have hfz5_0 := blk_frozen BK239.out 0; have hfz5_1 := blk_frozen BK239.out 1)))
    refine bodyPost_ret (results_cell_row rfl _ _ gb239 24 #[.int .u64 0, .int .u64 18446744073709551615] (0, 0) _ rfl (by (with_reducible repeat (first | refine blk_drewN ?_ _ | refine blk_drew ?_ | refine blk_alloc ?_ _)); refine blk_put (cs := #[.int .u64 0, .int .u64 0]) ?_ 1 _ rfl; (with_reducible repeat (first | refine blk_drewN ?_ _ | refine blk_drew ?_ | refine blk_alloc ?_ _)); refine blk_put (cs := #[.int .u64 0, .int .u64 0]) ?_ 0 _ rfl; (with_reducible repeat (first | refine blk_drewN ?_ _ | refine blk_drew ?_ | refine blk_alloc ?_ _)); exact BK239.out) Try.underlying24 rfl (by kernel_rfl)) rfl ?_
    exact ⟨by first | rfl | (simp [errW_none, errW_some] <;> rfl) | (simp [*, errW_none, errW_some] <;> rfl), by repeat (first | (with_reducible first | exact HB.out | apply below_alloc | apply pw_below_drewN | apply below_drew1 | refine below_set ?_ GE239.out) | exact HB.out)⟩
  · rw [if_neg c3] at H
    have c3b0 : decide (a1 < a0) = false := decide_eq_false c3
    clear c3
    have H' := Aside0.mk H
    clear H
    go_enter Try.func59, Try.ntmps59
    go_wp2_with (first | ((with_reducible refine gate_dst (N := 4) rfl ?_); refine box_event ?hg (N := 4) ?hd (cs := #[.int .u64 0, .int .u64 0]) (t := 24) ?hr ?_; (case hd => rfl); (case hg => rfl); (case hr => first | (go_simp; done) | (go_simp; rfl)); intro gb239 hg w6 hbox hb; have n0_ := Aside0.mk (below_step (by repeat (first | (with_reducible first | exact HB.out | apply below_alloc | apply pw_below_drewN | apply below_drew1) | exact HB.out)) hb); have n1_ := Aside0.mk (hbox); have n2_ := Aside0.mk ((by rw [hg]; exact (below_size (by repeat (first | (with_reducible first | exact HB.out | apply below_alloc | apply pw_below_drewN | apply below_drew1) | exact HB.out))) : w.heap.size ≤ gb239)); have n3_ := Aside0.mk ((by rw [hg]; exact (below_size (by repeat (first | (with_reducible first | exact HB.out | apply below_alloc | apply pw_below_drewN | apply below_drew1) | exact HB.out))) : w.heap.size ≤ gb239)); clear HB; have HB := n0_; have BK239 := n1_; have GW239 := n2_; have GE239 := n3_; clear n0_ n1_ n2_ n3_; clear hb hbox hg))
    repeat (go_quiet (first | ((with_reducible refine gate_dst (N := 4) rfl ?_); refine box_event ?hg (N := 4) ?hd (cs := #[.int .u64 0, .int .u64 0]) (t := 24) ?hr ?_; (case hd => rfl); (case hg => rfl); (case hr => first | (go_simp; done) | (go_simp; rfl)); intro gb239 hg w6 hbox hb; have n0_ := Aside0.mk (below_step (by repeat (first | (with_reducible first | exact HB.out | apply below_alloc | apply pw_below_drewN | apply below_drew1) | exact HB.out)) hb); have n1_ := Aside0.mk (hbox); have n2_ := Aside0.mk ((by rw [hg]; exact (below_size (by repeat (first | (with_reducible first | exact HB.out | apply below_alloc | apply pw_below_drewN | apply below_drew1) | exact HB.out))) : w.heap.size ≤ gb239)); have n3_ := Aside0.mk ((by rw [hg]; exact (below_size (by repeat (first | (with_reducible first | exact HB.out | apply below_alloc | apply pw_below_drewN | apply below_drew1) | exact HB.out))) : w.heap.size ≤ gb239)); clear HB; have HB := n0_; have BK239 := n1_; have GW239 := n2_; have GE239 := n3_; clear n0_ n1_ n2_ n3_; clear hb hbox hg)); try go_wp2_with (first | ((with_reducible refine gate_dst (N := 4) rfl ?_); refine box_event ?hg (N := 4) ?hd (cs := #[.int .u64 0, .int .u64 0]) (t := 24) ?hr ?_; (case hd => rfl); (case hg => rfl); (case hr => first | (go_simp; done) | (go_simp; rfl)); intro gb239 hg w6 hbox hb; have n0_ := Aside0.mk (below_step (by repeat (first | (with_reducible first | exact HB.out | apply below_alloc | apply pw_below_drewN | apply below_drew1) | exact HB.out)) hb); have n1_ := Aside0.mk (hbox); have n2_ := Aside0.mk ((by rw [hg]; exact (below_size (by repeat (first | (with_reducible first | exact HB.out | apply below_alloc | apply pw_below_drewN | apply below_drew1) | exact HB.out))) : w.heap.size ≤ gb239)); have n3_ := Aside0.mk ((by rw [hg]; exact (below_size (by repeat (first | (with_reducible first | exact HB.out | apply below_alloc | apply pw_below_drewN | apply below_drew1) | exact HB.out))) : w.heap.size ≤ gb239)); clear HB; have HB := n0_; have BK239 := n1_; have GW239 := n2_; have GE239 := n3_; clear n0_ n1_ n2_ n3_; clear hb hbox hg)))
    go_loopg [5, 6] k (fun kq v5 v6 w' => ∃ (x5_1 : Int) (x6_1 : Int) (x240000_1 : Int) (x240001_1 : Int), v5 = .int .u64 x5_1 ∧ v6 = .int .u64 x6_1 ∧ Aside0 (halberdref06_Range.l0 kq a0 a1 x5_1 x6_1 = some (r1, r2)) ∧ Aside0 (kq ≤ k) ∧ Aside0 (w'.heap[gb239]? = some (.cells #[.int .u64 x240000_1, .int .u64 x240001_1] 24 (0, 0))) ∧ Aside0 (Below w.heap.size w w'))
    case atStart => exact ⟨(1), (0), (0), (0), (by first | rfl | (simp; done) | (simp [*]; done)), (by first | rfl | (simp; done) | (simp [*]; done)), H', ⟨Nat.le_refl _⟩, ⟨by (with_reducible repeat (first | refine blk_drewN ?_ _ | refine blk_drew ?_ | refine blk_alloc ?_ _)); exact BK239.out⟩, ⟨by repeat (first | (with_reducible first | exact HB.out | apply below_alloc | apply pw_below_drewN | apply below_drew1 | refine below_set ?_ GE239.out) | exact HB.out)⟩⟩
    case round =>
      clear H'
      try clear p2
      try clear c3
      try clear c3b0
      try clear c5
      try clear hcz5_0
      try clear hcz5_1
      try clear hfz5_0
      try clear hfz5_1
      obtain ⟨x5_1, x6_1, x240000_1, x240001_1, rfl, rfl, HA, HK1, BK239, HB⟩ := hrel
      cases gk with
      | zero => exact absurd HA.out (by simp [halberdref06_Range.l0])
      | succ k1 =>
        have H := HA.out
        clear HA
        simp only [halberdref06_Range.l0] at H
        by_cases c7 : x5_1 = 0
        · rw [if_pos c7] at H
          exact absurd H (by simp)
        · rw [if_neg c7] at H
          have c7b0 : (x5_1 == 0) = false := beq_eq_false_iff_ne.mpr c7
          have c7b1 : (x5_1 != 0) = true := bne_iff_ne.mpr c7
          by_cases c8 : (IntKind.u64.wrap (Int.tdiv a0 x5_1)) = (IntKind.u64.wrap (Int.tdiv a1 x5_1))
          · rw [if_pos c8] at H
            have c8b0 : ((IntKind.u64.wrap (Int.tdiv a0 x5_1)) == (IntKind.u64.wrap (Int.tdiv a1 x5_1))) = true := beq_iff_eq.mpr c8
            have c8b1 : ((IntKind.u64.wrap (Int.tdiv a0 x5_1)) != (IntKind.u64.wrap (Int.tdiv a1 x5_1))) = false := bne_eq_false_iff_eq.mpr c8
            clear c8
            simp only [Option.some.injEq, Prod.mk.injEq] at H
            obtain ⟨rfl, rfl⟩ := H
            have hcz9_0 : wr.cell? ⟨gb239, 0, none⟩ = some (.int .u64 x240000_1) := (blk_cell BK239.out 0).trans rfl
            have hcz9_1 : wr.cell? ⟨gb239, 1, none⟩ = some (.int .u64 x240001_1) := (blk_cell BK239.out 1).trans rfl
            have hfz9_0 := blk_frozen BK239.out 0
            have hfz9_1 := blk_frozen BK239.out 1
            go_wp2
            repeat (go_quiet (fail); try go_wp2)
            refine bodyPost_ret (results_cell_row rfl _ _ gb239 24 #[.int .u64 (IntKind.u64.wrap ((IntKind.u64.wrap (Int.tdiv a0 x5_1)) * x5_1)), .int .u64 x6_1] (0, 0) _ rfl (by (with_reducible repeat (first | refine blk_drewN ?_ _ | refine blk_drew ?_ | refine blk_alloc ?_ _)); refine blk_put (cs := #[.int .u64 (IntKind.u64.wrap ((IntKind.u64.wrap (Int.tdiv a0 x5_1)) * x5_1)), .int .u64 x240001_1]) ?_ 1 _ rfl; (with_reducible repeat (first | refine blk_drewN ?_ _ | refine blk_drew ?_ | refine blk_alloc ?_ _)); refine blk_put (cs := #[.int .u64 x240000_1, .int .u64 x240001_1]) ?_ 0 _ rfl; (with_reducible repeat (first | refine blk_drewN ?_ _ | refine blk_drew ?_ | refine blk_alloc ?_ _)); exact BK239.out) Try.underlying24 rfl (by kernel_rfl)) rfl ?_
            exact ⟨by first | rfl | (simp [errW_none, errW_some] <;> rfl) | (simp [*, errW_none, errW_some] <;> rfl), by repeat (first | (with_reducible first | exact HB.out | apply below_alloc | apply pw_below_drewN | apply below_drew1 | refine below_set ?_ GE239.out) | exact HB.out)⟩
          · rw [if_neg c8] at H
            have c8b0 : ((IntKind.u64.wrap (Int.tdiv a0 x5_1)) == (IntKind.u64.wrap (Int.tdiv a1 x5_1))) = false := beq_eq_false_iff_ne.mpr c8
            have c8b1 : ((IntKind.u64.wrap (Int.tdiv a0 x5_1)) != (IntKind.u64.wrap (Int.tdiv a1 x5_1))) = true := bne_iff_ne.mpr c8
            by_cases c10 : x5_1 = 9223372036854775808
            · rw [if_pos c10] at H
              have c10b0 : (x5_1 == 9223372036854775808) = true := beq_iff_eq.mpr c10
              have c10b1 : (x5_1 != 9223372036854775808) = false := bne_eq_false_iff_eq.mpr c10
              clear c10
              simp only [Option.some.injEq, Prod.mk.injEq] at H
              obtain ⟨rfl, rfl⟩ := H
              have hcz11_0 : wr.cell? ⟨gb239, 0, none⟩ = some (.int .u64 x240000_1) := (blk_cell BK239.out 0).trans rfl
              have hcz11_1 : wr.cell? ⟨gb239, 1, none⟩ = some (.int .u64 x240001_1) := (blk_cell BK239.out 1).trans rfl
              have hfz11_0 := blk_frozen BK239.out 0
              have hfz11_1 := blk_frozen BK239.out 1
              go_wp2
              repeat (go_quiet (fail); try go_wp2)
              refine bodyPost_ret (results_cell_row rfl _ _ gb239 24 #[.int .u64 0, .int .u64 (IntKind.u64.wrap (x6_1 + x5_1))] (0, 0) _ rfl (by (with_reducible repeat (first | refine blk_drewN ?_ _ | refine blk_drew ?_ | refine blk_alloc ?_ _)); refine blk_put (cs := #[.int .u64 0, .int .u64 x240001_1]) ?_ 1 _ rfl; (with_reducible repeat (first | refine blk_drewN ?_ _ | refine blk_drew ?_ | refine blk_alloc ?_ _)); refine blk_put (cs := #[.int .u64 x240000_1, .int .u64 x240001_1]) ?_ 0 _ rfl; (with_reducible repeat (first | refine blk_drewN ?_ _ | refine blk_drew ?_ | refine blk_alloc ?_ _)); exact BK239.out) Try.underlying24 rfl (by kernel_rfl)) rfl ?_
              exact ⟨by first | rfl | (simp [errW_none, errW_some] <;> rfl) | (simp [*, errW_none, errW_some] <;> rfl), by repeat (first | (with_reducible first | exact HB.out | apply below_alloc | apply pw_below_drewN | apply below_drew1 | refine below_set ?_ GE239.out) | exact HB.out)⟩
            · rw [if_neg c10] at H
              have c10b0 : (x5_1 == 9223372036854775808) = false := beq_eq_false_iff_ne.mpr c10
              have c10b1 : (x5_1 != 9223372036854775808) = true := bne_iff_ne.mpr c10
              have H' := Aside0.mk H
              clear H
              go_wp2
              repeat (go_quiet (fail); try go_wp2)
              go_roundg k1
              case measure => have := HK1.out; omega
              case rel => exact ⟨(IntKind.u64.wrap (2 * x5_1)), (IntKind.u64.wrap (x6_1 + x5_1)), (x240000_1), (x240001_1), (by first | rfl | (simp; done) | (simp [*]; done)), (by first | rfl | (simp; done) | (simp [*]; done)), H', ⟨by have := HK1.out; omega⟩, ⟨by (with_reducible repeat (first | refine blk_drewN ?_ _ | refine blk_drew ?_ | refine blk_alloc ?_ _)); exact BK239.out⟩, ⟨by repeat (first | (with_reducible first | exact HB.out | apply below_alloc | apply pw_below_drewN | apply below_drew1 | refine below_set ?_ GE239.out) | exact HB.out)⟩⟩

end Go.Proofs.Ytkgmdcibjjkhlaa.PXferSound
