/- Functions of the program that some laws reach, as Lean functions, and proofs that the program's calls come to what they say: written by a program, for the texts that import it; each theorem bears its own conditions. -/
import Derived.Test.YteckjmejngieeaaPTnumTwox0
namespace Go.Proofs.Yteckjmejngieeaa.PTnumTwo
open Go.RowKit Go.Proofs.YteckjmejngieeaaW.PrintWords Go.Proofs.YteckjmejngieeaaW.PrintLast Go.Proofs.YteckjmejngieeaaW.PrintMore
attribute [local go_sem] max2_int min2_int max_two min_two max_three min_three max_four min_four   -- for this text's walks alone
set_option linter.unusedVariables false
set_option linter.unusedSimpArgs false

/-! ### halberdref06_Of: function 63 -/
mutual
def halberdref06_Of.l0 : Nat → List Bool → List Bool → Int → Int → Int → Int → Option (Int × Int)
  | 0, _, _, _, _, _, _ => none
  | k + 1, x0, x1, x6, x7, x147000, x147001 => if x7 < 64 then (if 0 ≤ x7 then (if x7 < (x0.length : Int) then (if rdOf false x0 x7 = true then (if x7 < (x1.length : Int) then (halberdref06_Of.j1 k x0 x1 x6 x7 (rdOf false x1 x7) x147000 x147001) else (none)) else (halberdref06_Of.j1 k x0 x1 x6 x7 false x147000 x147001)) else (none)) else (none)) else (some (x147000, x147001))
def halberdref06_Of.j1 : Nat → List Bool → List Bool → Int → Int → Bool → Int → Int → Option (Int × Int)
  | 0, _, _, _, _, _, _, _ => none
  | k + 1, x0, x1, x6, x7, x22, x147000, x147001 => if x22 = true then (halberdref06_Of.l0 k x0 x1 (IntKind.u64.wrap (2 * x6)) (wrap64 (x7 + 1)) x147000 (IntKind.u64.wrap (x147001 + x6))) else (if 0 ≤ x7 then (if x7 < (x1.length : Int) then (if rdOf false x1 x7 = true then (halberdref06_Of.l0 k x0 x1 (IntKind.u64.wrap (2 * x6)) (wrap64 (x7 + 1)) (IntKind.u64.wrap (x147000 + x6)) x147001) else (halberdref06_Of.l0 k x0 x1 (IntKind.u64.wrap (2 * x6)) (wrap64 (x7 + 1)) x147000 x147001)) else (none)) else (none))
end
def halberdref06_Of.f (k : Nat) (l0 : List Bool) (l1 : List Bool) : Option (Int × Int) := halberdref06_Of.l0 k l0 l1 1 0 0 0
theorem halberdref06_Of.mono_l : ∀ k, (∀ y0 y1 y2 y3 y4 y5, LeO (halberdref06_Of.l0 k y0 y1 y2 y3 y4 y5) (halberdref06_Of.l0 (k + 1) y0 y1 y2 y3 y4 y5)) ∧ (∀ y0 y1 y2 y3 y4 y5 y6, LeO (halberdref06_Of.j1 k y0 y1 y2 y3 y4 y5 y6) (halberdref06_Of.j1 (k + 1) y0 y1 y2 y3 y4 y5 y6))
  | 0 => ⟨fun _ _ _ _ _ _ r h => by simp [halberdref06_Of.l0] at h, fun _ _ _ _ _ _ _ r h => by simp [halberdref06_Of.j1] at h⟩
  | k + 1 => by
    obtain ⟨ih0, ih1⟩ := halberdref06_Of.mono_l k
    refine ⟨?_, ?_⟩
    · intro y0 y1 y2 y3 y4 y5
      unfold halberdref06_Of.l0
      repeat' first
      | (with_reducible exact ih0 _ _ _ _ _ _)
      | (with_reducible exact ih1 _ _ _ _ _ _ _)
      | (with_reducible exact LeO.refl _)
      | (with_reducible exact LeO.none _)
      | (with_reducible refine LeO.ite ?_ ?_)
      | (with_reducible refine LeO.bind ?_ (fun _ => ?_))
      | exact ih0 _ _ _ _ _ _
      | exact ih1 _ _ _ _ _ _ _
      | exact LeO.none _
      | refine LeO.ite ?_ ?_
      | refine LeO.bind ?_ (fun _ => ?_)
    · intro y0 y1 y2 y3 y4 y5 y6
      unfold halberdref06_Of.j1
      repeat' first
      | (with_reducible exact ih0 _ _ _ _ _ _)
      | (with_reducible exact ih1 _ _ _ _ _ _ _)
      | (with_reducible exact LeO.refl _)
      | (with_reducible exact LeO.none _)
      | (with_reducible refine LeO.ite ?_ ?_)
      | (with_reducible refine LeO.bind ?_ (fun _ => ?_))
      | exact ih0 _ _ _ _ _ _
      | exact ih1 _ _ _ _ _ _ _
      | exact LeO.none _
      | refine LeO.ite ?_ ?_
      | refine LeO.bind ?_ (fun _ => ?_)
theorem halberdref06_Of.mono : ∀ a0 a1 k, LeO (halberdref06_Of.f k a0 a1) (halberdref06_Of.f (k + 1) a0 a1) := by
  intro a0 a1 k
  obtain ⟨ih0, ih1⟩ := halberdref06_Of.mono_l k
  unfold halberdref06_Of.f
  repeat' first
      | (with_reducible exact ih0 _ _ _ _ _ _)
      | (with_reducible exact ih1 _ _ _ _ _ _ _)
      | (with_reducible exact LeO.refl _)
      | (with_reducible exact LeO.none _)
      | (with_reducible refine LeO.ite ?_ ?_)
      | (with_reducible refine LeO.bind ?_ (fun _ => ?_))
      | exact ih0 _ _ _ _ _ _
      | exact ih1 _ _ _ _ _ _ _
      | exact LeO.none _
      | refine LeO.ite ?_ ?_
      | refine LeO.bind ?_ (fun _ => ?_)
set_option maxHeartbeats 8000000 in
set_option maxRecDepth 100000 in
theorem halberdref06_Of.calls (k : Nat) (A0 : Option Addr) (c0 : Nat) (l0 : List Bool) (A1 : Option Addr) (c1 : Nat) (l1 : List Bool) (r1 : Int) (r2 : Int) (w : World) (hr0 : Kd.C Kd.bool w A0 l0.length l0) (hc0 : l0.length ≤ c0) (hr1 : Kd.C Kd.bool w A1 l1.length l1) (hc1 : l1.length ≤ c1) (h : halberdref06_Of.f k l0 l1 = some (r1, r2)) :
    Calls Try.prog 63 #[.slice A0 l0.length c0, .slice A1 l1.length c1] w fun e w' => e = .returned (.agg #[.int .u64 r1, .int .u64 r2]) ∧ Below w.heap.size w w' := by
  have hu43 := Try.underlying43
  have HR0 := Aside0.mk hr0
  have HC0 := Aside0.mk hc0
  clear hr0 hc0
  have HR1 := Aside0.mk hr1
  have HC1 := Aside0.mk hc1
  clear hr1 hc1
  have HB := Aside0.mk (Below.refl w.heap.size w)
  have H : (halberdref06_Of.l0 k l0 l1 1 0 0 0) = some (r1, r2) := h
  clear h
  have H' := Aside0.mk H
  clear H
  go_enter Try.func63, Try.ntmps63
  go_wp2_with (first | ((with_reducible refine gate_dst (N := 4) rfl ?_); refine box_event ?hg (N := 4) ?hd (cs := #[.int .u64 0, .int .u64 0]) (t := 43) ?hr ?_; (case hd => rfl); (case hg => rfl); (case hr => first | (go_simp; done) | (go_simp; rfl)); intro gb145 hg w3 hbox hb; have n0_ := Aside0.mk (below_step (by repeat (first | (with_reducible first | exact HB.out | apply below_alloc | apply pw_below_drewN | apply below_drew1) | exact HB.out)) hb); have n1_ := Aside0.mk (hbox); have n2_ := Aside0.mk ((by rw [hg]; exact (below_size (by repeat (first | (with_reducible first | exact HB.out | apply below_alloc | apply pw_below_drewN | apply below_drew1) | exact HB.out))) : w.heap.size ≤ gb145)); have n3_ := Aside0.mk ((by rw [hg]; exact (below_size (by repeat (first | (with_reducible first | exact HB.out | apply below_alloc | apply pw_below_drewN | apply below_drew1) | exact HB.out))) : w.heap.size ≤ gb145)); clear HB; have HB := n0_; have BK145 := n1_; have GW145 := n2_; have GE145 := n3_; clear n0_ n1_ n2_ n3_; clear hb hbox hg) | ((with_reducible refine gate_dst (N := 5) rfl ?_); refine box_event ?hg (N := 5) ?hd (cs := #[.int .u64 0, .int .u64 0]) (t := 43) ?hr ?_; (case hd => rfl); (case hg => rfl); (case hr => first | (go_simp; done) | (go_simp; rfl)); intro gb146 hg w4 hbox hb; have n0_ := Aside0.mk (blk_below (g := gb145) (o := .cells #[.int .u64 0, .int .u64 0] 43 (0, 0)) (by (with_reducible repeat (first | refine blk_drewN ?_ _ | refine blk_drew ?_ | refine blk_alloc ?_ _)); exact BK145.out) hb); have n1_ := Aside0.mk (below_step (by repeat (first | (with_reducible first | exact HB.out | apply below_alloc | apply pw_below_drewN | apply below_drew1 | refine below_set ?_ GE145.out) | exact HB.out)) hb); have n2_ := Aside0.mk (hbox); have n3_ := Aside0.mk ((by rw [hg]; exact (below_size (by repeat (first | (with_reducible first | exact HB.out | apply below_alloc | apply pw_below_drewN | apply below_drew1 | refine below_set ?_ GE145.out) | exact HB.out))) : w.heap.size ≤ gb146)); have n4_ := Aside0.mk ((by rw [hg]; exact (below_size (by repeat (first | (with_reducible first | exact HB.out | apply below_alloc | apply pw_below_drewN | apply below_drew1 | refine below_set ?_ GE145.out) | exact HB.out))) : w.heap.size ≤ gb146)); have n5_ := Aside0.mk ((by rw [hg]; exact Nat.ne_of_lt (blk_lt (g := gb145) (o := .cells #[.int .u64 0, .int .u64 0] 43 (0, 0)) (by (with_reducible repeat (first | refine blk_drewN ?_ _ | refine blk_drew ?_ | refine blk_alloc ?_ _)); exact BK145.out)) : gb145 ≠ gb146)); have n6_ := Aside0.mk ((by rw [hg]; exact Nat.ne_of_gt (blk_lt (g := gb145) (o := .cells #[.int .u64 0, .int .u64 0] 43 (0, 0)) (by (with_reducible repeat (first | refine blk_drewN ?_ _ | refine blk_drew ?_ | refine blk_alloc ?_ _)); exact BK145.out)) : gb146 ≠ gb145)); clear BK145; clear HB; have BK145 := n0_; have HB := n1_; have BK146 := n2_; have GW146 := n3_; have GE146 := n4_; have NB145_146 := n5_; have NB146_145 := n6_; clear n0_ n1_ n2_ n3_ n4_ n5_ n6_; clear hb hbox hg; have hnb5 := NB146_145.out; have hnc5 := NB145_146.out; have hcz6_0 : w4.cell? ⟨gb146, 0, none⟩ = some (.int .u64 0) := (blk_cell BK146.out 0).trans rfl; have hcz6_1 : w4.cell? ⟨gb146, 1, none⟩ = some (.int .u64 0) := (blk_cell BK146.out 1).trans rfl; have hfz6_0 := blk_frozen BK146.out 0; have hfz6_1 := blk_frozen BK146.out 1))
  go_loopg [6, 7] k (fun kq v6 v7 w' => ∃ (x6_1 : Int) (x7_1 : Int) (x147000_1 : Int) (x147001_1 : Int), v6 = .int .u64 x6_1 ∧ v7 = .int .i64 x7_1 ∧ Aside0 (halberdref06_Of.l0 kq l0 l1 x6_1 x7_1 x147000_1 x147001_1 = some (r1, r2)) ∧ Aside0 (kq ≤ k) ∧ Aside0 (w'.heap[gb145]? = some (.cells #[.int .u64 0, .int .u64 0] 43 (0, 0))) ∧ Aside0 (w'.heap[gb146]? = some (.cells #[.int .u64 x147000_1, .int .u64 x147001_1] 43 (0, 0))) ∧ Aside0 (Below w.heap.size w w'))
  case atStart => exact ⟨(1), (0), (0), (0), (by first | rfl | (simp; done) | (simp [*]; done)), (by first | rfl | (simp; done) | (simp [*]; done)), H', ⟨Nat.le_refl _⟩, ⟨by (with_reducible repeat (first | refine blk_drewN ?_ _ | refine blk_drew ?_ | refine blk_alloc ?_ _)); refine blk_far ?_ NB145_146.out _; (with_reducible repeat (first | refine blk_drewN ?_ _ | refine blk_drew ?_ | refine blk_alloc ?_ _)); refine blk_far ?_ NB145_146.out _; (with_reducible repeat (first | refine blk_drewN ?_ _ | refine blk_drew ?_ | refine blk_alloc ?_ _)); exact BK145.out⟩, ⟨by (with_reducible repeat (first | refine blk_drewN ?_ _ | refine blk_drew ?_ | refine blk_alloc ?_ _)); refine blk_put (cs := #[.int .u64 0, .int .u64 0]) ?_ 1 _ rfl; (with_reducible repeat (first | refine blk_drewN ?_ _ | refine blk_drew ?_ | refine blk_alloc ?_ _)); refine blk_put (cs := #[.int .u64 0, .int .u64 0]) ?_ 0 _ rfl; (with_reducible repeat (first | refine blk_drewN ?_ _ | refine blk_drew ?_ | refine blk_alloc ?_ _)); exact BK146.out⟩, ⟨by repeat (first | (with_reducible first | exact HB.out | apply below_alloc | apply pw_below_drewN | apply below_drew1 | refine below_set ?_ GE145.out | refine below_set ?_ GE146.out) | exact HB.out)⟩⟩
  case round =>
    clear H'
    try clear c1
    try clear p2
    try clear c5
    try clear c6
    try clear hcz6_0
    try clear hcz6_1
    try clear hfz6_0
    try clear hfz6_1
    obtain ⟨x6_1, x7_1, x147000_1, x147001_1, rfl, rfl, HA, HK1, BK145, BK146, HB⟩ := hrel
    cases gk with
    | zero => exact absurd HA.out (by simp [halberdref06_Of.l0])
    | succ k1 =>
      have H := HA.out
      clear HA
      simp only [halberdref06_Of.l0] at H
      by_cases c7 : x7_1 < 64
      · rw [if_pos c7] at H
        have c7b0 : decide (x7_1 < 64) = true := decide_eq_true c7
        clear c7
        have HC8 := Aside0.mk H
        clear H
        go_upto_region 6 with (fail)
        go_cut [22] (fun v22 wc => ∃ (kq : Nat) (x22_7 : Bool), v22 = .bool x22_7 ∧ Aside0 (halberdref06_Of.j1 kq l0 l1 x6_1 x7_1 x22_7 x147000_1 x147001_1 = some (r1, r2)) ∧ Aside0 (kq ≤ k1) ∧ Aside0 (wc.heap[gb145]? = some (.cells #[.int .u64 0, .int .u64 0] 43 (0, 0))) ∧ Aside0 (wc.heap[gb146]? = some (.cells #[.int .u64 x147000_1, .int .u64 x147001_1] 43 (0, 0))) ∧ Aside0 (Below w.heap.size w wc))
        case first =>
          have H := HC8.out
          clear HC8
          by_cases c9 : 0 ≤ x7_1
          · rw [if_pos c9] at H
            have c9b0 : decide (0 ≤ x7_1) = true := decide_eq_true c9
            clear c9
            (first | rw [c9b0] | (simp only [i64_w, i32_w]; rw [c9b0]) | skip)
            by_cases c10 : x7_1 < (l0.length : Int)
            · rw [if_pos c10] at H
              have c10b0 : decide (x7_1 < (l0.length : Int)) = true := decide_eq_true c10
              clear c10
              obtain ⟨bq11, hbq11⟩ : ∃ b_ : Bool, b_ = (rdOf false l0 x7_1) := ⟨_, rfl⟩
              replace H : (if bq11 = true then (if x7_1 < (l1.length : Int) then (halberdref06_Of.j1 k1 l0 l1 x6_1 x7_1 (rdOf false l1 x7_1) x147000_1 x147001_1) else (none)) else (halberdref06_Of.j1 k1 l0 l1 x6_1 x7_1 false x147000_1 x147001_1)) = some (r1, r2) := by rw [← hbq11] at H; exact H
              have Nbq11 := Aside0.mk hbq11
              clear hbq11
              by_cases c12 : bq11 = true
              · subst c12
                have H1 : (if x7_1 < (l1.length : Int) then (halberdref06_Of.j1 k1 l0 l1 x6_1 x7_1 (rdOf false l1 x7_1) x147000_1 x147001_1) else (none)) = some (r1, r2) := by rw [if_pos rfl] at H; exact H
                clear H
                have H := H1
                clear H1
                by_cases c13 : x7_1 < (l1.length : Int)
                · rw [if_pos c13] at H
                  have c13b0 : decide (x7_1 < (l1.length : Int)) = true := decide_eq_true c13
                  clear c13
                  have H' := Aside0.mk H
                  clear H
                  have p147 : 0 ≤ (x7_1 : Int) := of_decide_eq_true (by first | (with_reducible assumption) | assumption)
                  have q147 : x7_1 < (l0.length : Int) := of_decide_eq_true (by first | (with_reducible assumption) | assumption)
                  obtain ⟨ad147, e147, hx147_0⟩ := Kd.at_bool HR0.out x7_1 p147 q147
                  (try rw [← Nbq11.out] at hx147_0)
                  cases e147
                  replace hx147_0 := (HB.out.cell (World.block_lt_of_cell? w _ hx147_0)).trans hx147_0
                  replace p147 := eq_true p147
                  replace q147 := eq_true q147
                  have p148 : 0 ≤ (x7_1 : Int) := of_decide_eq_true (by first | (with_reducible assumption) | assumption)
                  have q148 : x7_1 < (l1.length : Int) := of_decide_eq_true (by first | (with_reducible assumption) | assumption)
                  obtain ⟨ad148, e148, hx148_0⟩ := Kd.at_bool HR1.out x7_1 p148 q148
                  (try rw [← Nbq11.out] at hx148_0)
                  cases e148
                  replace hx148_0 := (HB.out.cell (World.block_lt_of_cell? w _ hx148_0)).trans hx148_0
                  replace p148 := eq_true p148
                  replace q148 := eq_true q148
                  go_wp2
                  go_meet
                  case rel => exact ⟨_, (rdOf false l1 x7_1), (by first | rfl | (simp; done) | (simp [*]; done)), H', ⟨by have := HK1.out; first | omega | exact Nat.le_refl _⟩, ⟨by (with_reducible repeat (first | refine blk_drewN ?_ _ | refine blk_drew ?_ | refine blk_alloc ?_ _)); exact BK145.out⟩, ⟨by (with_reducible repeat (first | refine blk_drewN ?_ _ | refine blk_drew ?_ | refine blk_alloc ?_ _)); exact BK146.out⟩, ⟨by repeat (first | (with_reducible first | exact HB.out | apply below_alloc | apply pw_below_drewN | apply below_drew1 | refine below_set ?_ GE145.out | refine below_set ?_ GE146.out) | exact HB.out)⟩⟩
                · rw [if_neg c13] at H
                  exact absurd H (by simp)
              · replace c12 := Bool.eq_false_iff.mpr c12
                subst c12
                have H1 : (halberdref06_Of.j1 k1 l0 l1 x6_1 x7_1 false x147000_1 x147001_1) = some (r1, r2) := by rw [if_neg (show ¬ (false = true) by decide)] at H; exact H
                clear H
                have H := H1
                clear H1
                have H' := Aside0.mk H
                clear H
                have p147 : 0 ≤ (x7_1 : Int) := of_decide_eq_true (by first | (with_reducible assumption) | assumption)
                have q147 : x7_1 < (l0.length : Int) := of_decide_eq_true (by first | (with_reducible assumption) | assumption)
                obtain ⟨ad147, e147, hx147_0⟩ := Kd.at_bool HR0.out x7_1 p147 q147
                (try rw [← Nbq11.out] at hx147_0)
                cases e147
                replace hx147_0 := (HB.out.cell (World.block_lt_of_cell? w _ hx147_0)).trans hx147_0
                replace p147 := eq_true p147
                replace q147 := eq_true q147
                go_wp2
                go_meet
                case rel => exact ⟨_, (false), (by first | rfl | (simp; done) | (simp [*]; done)), H', ⟨by have := HK1.out; first | omega | exact Nat.le_refl _⟩, ⟨by (with_reducible repeat (first | refine blk_drewN ?_ _ | refine blk_drew ?_ | refine blk_alloc ?_ _)); exact BK145.out⟩, ⟨by (with_reducible repeat (first | refine blk_drewN ?_ _ | refine blk_drew ?_ | refine blk_alloc ?_ _)); exact BK146.out⟩, ⟨by repeat (first | (with_reducible first | exact HB.out | apply below_alloc | apply pw_below_drewN | apply below_drew1 | refine below_set ?_ GE145.out | refine below_set ?_ GE146.out) | exact HB.out)⟩⟩
            · rw [if_neg c10] at H
              exact absurd H (by simp)
          · rw [if_neg c9] at H
            exact absurd H (by simp)
        case rest =>
          clear HC8
          try clear c1
          try clear p1
          try clear q1
          try clear hx1
          try clear p2
          try clear c5
          try clear c6
          try clear c7
          try clear c7b0
          try clear c9
          try clear c9b0
          try clear c10
          try clear c10b0
          try clear q11
          try clear c12
          try clear c13
          try clear c13b0
          try clear hcz6_0
          try clear hcz6_1
          try clear hfz6_0
          try clear hfz6_1
          try clear hx147_0
          try clear hx148_0
          try clear p147
          try clear p148
          try clear p2
          try clear q147
          try clear q148
          obtain ⟨kq, x22_7, rfl, HA, HJ7, BK145, BK146, HB⟩ := hcut
          cases kq with
          | zero => exact absurd HA.out (by simp [halberdref06_Of.j1])
          | succ kj7 =>
            have H := HA.out
            clear HA
            simp only [halberdref06_Of.j1] at H
            by_cases c14 : x22_7 = true
            · subst c14
              have H1 : (halberdref06_Of.l0 kj7 l0 l1 (IntKind.u64.wrap (2 * x6_1)) (wrap64 (x7_1 + 1)) x147000_1 (IntKind.u64.wrap (x147001_1 + x6_1))) = some (r1, r2) := by rw [if_pos rfl] at H; exact H
              clear H
              have H := H1
              clear H1
              have H' := Aside0.mk H
              clear H
              have hnb15 := NB146_145.out
              have hnc15 := NB145_146.out
              have hcz16_0 : wc.cell? ⟨gb146, 0, none⟩ = some (.int .u64 x147000_1) := (blk_cell BK146.out 0).trans rfl
              have hcz16_1 : wc.cell? ⟨gb146, 1, none⟩ = some (.int .u64 x147001_1) := (blk_cell BK146.out 1).trans rfl
              have hfz16_0 := blk_frozen BK146.out 0
              have hfz16_1 := blk_frozen BK146.out 1
              go_wp2
              go_roundg kj7
              case measure => have := HK1.out; have := HJ7.out; omega
              case rel => exact ⟨(IntKind.u64.wrap (2 * x6_1)), (wrap64 (x7_1 + 1)), (x147000_1), (IntKind.u64.wrap (x147001_1 + x6_1)), (by first | rfl | (simp; done) | (simp [*]; done)), (by first | rfl | (simp; done) | (simp [*]; done)), H', ⟨by have := HK1.out; have := HJ7.out; omega⟩, ⟨by (with_reducible repeat (first | refine blk_drewN ?_ _ | refine blk_drew ?_ | refine blk_alloc ?_ _)); refine blk_far ?_ NB145_146.out _; (with_reducible repeat (first | refine blk_drewN ?_ _ | refine blk_drew ?_ | refine blk_alloc ?_ _)); exact BK145.out⟩, ⟨by (with_reducible repeat (first | refine blk_drewN ?_ _ | refine blk_drew ?_ | refine blk_alloc ?_ _)); refine blk_put (cs := #[.int .u64 x147000_1, .int .u64 x147001_1]) ?_ 1 _ rfl; (with_reducible repeat (first | refine blk_drewN ?_ _ | refine blk_drew ?_ | refine blk_alloc ?_ _)); exact BK146.out⟩, ⟨by repeat (first | (with_reducible first | exact HB.out | apply below_alloc | apply pw_below_drewN | apply below_drew1 | refine below_set ?_ GE145.out | refine below_set ?_ GE146.out) | exact HB.out)⟩⟩
            · replace c14 := Bool.eq_false_iff.mpr c14
              subst c14
              have H1 : (if 0 ≤ x7_1 then (if x7_1 < (l1.length : Int) then (if rdOf false l1 x7_1 = true then (halberdref06_Of.l0 kj7 l0 l1 (IntKind.u64.wrap (2 * x6_1)) (wrap64 (x7_1 + 1)) (IntKind.u64.wrap (x147000_1 + x6_1)) x147001_1) else (halberdref06_Of.l0 kj7 l0 l1 (IntKind.u64.wrap (2 * x6_1)) (wrap64 (x7_1 + 1)) x147000_1 x147001_1)) else (none)) else (none)) = some (r1, r2) := by rw [if_neg (show ¬ (false = true) by decide)] at H; exact H
              clear H
              have H := H1
              clear H1
              by_cases c17 : 0 ≤ x7_1
              · rw [if_pos c17] at H
                have c17b0 : decide (0 ≤ x7_1) = true := decide_eq_true c17
                clear c17
                by_cases c18 : x7_1 < (l1.length : Int)
                · rw [if_pos c18] at H
                  have c18b0 : decide (x7_1 < (l1.length : Int)) = true := decide_eq_true c18
                  clear c18
                  obtain ⟨bq19, hbq19⟩ : ∃ b_ : Bool, b_ = (rdOf false l1 x7_1) := ⟨_, rfl⟩
                  replace H : (if bq19 = true then (halberdref06_Of.l0 kj7 l0 l1 (IntKind.u64.wrap (2 * x6_1)) (wrap64 (x7_1 + 1)) (IntKind.u64.wrap (x147000_1 + x6_1)) x147001_1) else (halberdref06_Of.l0 kj7 l0 l1 (IntKind.u64.wrap (2 * x6_1)) (wrap64 (x7_1 + 1)) x147000_1 x147001_1)) = some (r1, r2) := by rw [← hbq19] at H; exact H
                  have Nbq19 := Aside0.mk hbq19
                  clear hbq19
                  by_cases c20 : bq19 = true
                  · subst c20
                    have H1 : (halberdref06_Of.l0 kj7 l0 l1 (IntKind.u64.wrap (2 * x6_1)) (wrap64 (x7_1 + 1)) (IntKind.u64.wrap (x147000_1 + x6_1)) x147001_1) = some (r1, r2) := by rw [if_pos rfl] at H; exact H
                    clear H
                    have H := H1
                    clear H1
                    have H' := Aside0.mk H
                    clear H
                    have p149 : 0 ≤ (x7_1 : Int) := of_decide_eq_true (by first | (with_reducible assumption) | assumption)
                    have q149 : x7_1 < (l1.length : Int) := of_decide_eq_true (by first | (with_reducible assumption) | assumption)
                    obtain ⟨ad149, e149, hx149_0⟩ := Kd.at_bool HR1.out x7_1 p149 q149
                    (try rw [← Nbq19.out] at hx149_0)
                    cases e149
                    replace hx149_0 := (HB.out.cell (World.block_lt_of_cell? w _ hx149_0)).trans hx149_0
                    replace p149 := eq_true p149
                    replace q149 := eq_true q149
                    have hnb21 := NB146_145.out
                    have hnc21 := NB145_146.out
                    have hcz22_0 : wc.cell? ⟨gb146, 0, none⟩ = some (.int .u64 x147000_1) := (blk_cell BK146.out 0).trans rfl
                    have hcz22_1 : wc.cell? ⟨gb146, 1, none⟩ = some (.int .u64 x147001_1) := (blk_cell BK146.out 1).trans rfl
                    have hfz22_0 := blk_frozen BK146.out 0
                    have hfz22_1 := blk_frozen BK146.out 1
                    go_wp2
                    go_roundg kj7
                    case measure => have := HK1.out; have := HJ7.out; omega
                    case rel => exact ⟨(IntKind.u64.wrap (2 * x6_1)), (wrap64 (x7_1 + 1)), (IntKind.u64.wrap (x147000_1 + x6_1)), (x147001_1), (by first | rfl | (simp; done) | (simp [*]; done)), (by first | rfl | (simp; done) | (simp [*]; done)), H', ⟨by have := HK1.out; have := HJ7.out; omega⟩, ⟨by (with_reducible repeat (first | refine blk_drewN ?_ _ | refine blk_drew ?_ | refine blk_alloc ?_ _)); refine blk_far ?_ NB145_146.out _; (with_reducible repeat (first | refine blk_drewN ?_ _ | refine blk_drew ?_ | refine blk_alloc ?_ _)); exact BK145.out⟩, ⟨by (with_reducible repeat (first | refine blk_drewN ?_ _ | refine blk_drew ?_ | refine blk_alloc ?_ _)); refine blk_put (cs := #[.int .u64 x147000_1, .int .u64 x147001_1]) ?_ 0 _ rfl; (with_reducible repeat (first | refine blk_drewN ?_ _ | refine blk_drew ?_ | refine blk_alloc ?_ _)); exact BK146.out⟩, ⟨by repeat (first | (with_reducible first | exact HB.out | apply below_alloc | apply pw_below_drewN | apply below_drew1 | refine below_set ?_ GE145.out | refine below_set ?_ GE146.out) | exact HB.out)⟩⟩
                  · replace c20 := Bool.eq_false_iff.mpr c20
                    subst c20
                    have H1 : (halberdref06_Of.l0 kj7 l0 l1 (IntKind.u64.wrap (2 * x6_1)) (wrap64 (x7_1 + 1)) x147000_1 x147001_1) = some (r1, r2) := by rw [if_neg (show ¬ (false = true) by decide)] at H; exact H
                    clear H
                    have H := H1
                    clear H1
                    have H' := Aside0.mk H
                    clear H
                    have p149 : 0 ≤ (x7_1 : Int) := of_decide_eq_true (by first | (with_reducible assumption) | assumption)
                    have q149 : x7_1 < (l1.length : Int) := of_decide_eq_true (by first | (with_reducible assumption) | assumption)
                    obtain ⟨ad149, e149, hx149_0⟩ := Kd.at_bool HR1.out x7_1 p149 q149
                    (try rw [← Nbq19.out] at hx149_0)
                    cases e149
                    replace hx149_0 := (HB.out.cell (World.block_lt_of_cell? w _ hx149_0)).trans hx149_0
                    replace p149 := eq_true p149
                    replace q149 := eq_true q149
                    go_wp2
                    go_roundg kj7
                    case measure => have := HK1.out; have := HJ7.out; omega
                    case rel => exact ⟨(IntKind.u64.wrap (2 * x6_1)), (wrap64 (x7_1 + 1)), (x147000_1), (x147001_1), (by first | rfl | (simp; done) | (simp [*]; done)), (by first | rfl | (simp; done) | (simp [*]; done)), H', ⟨by have := HK1.out; have := HJ7.out; omega⟩, ⟨by (with_reducible repeat (first | refine blk_drewN ?_ _ | refine blk_drew ?_ | refine blk_alloc ?_ _)); exact BK145.out⟩, ⟨by (with_reducible repeat (first | refine blk_drewN ?_ _ | refine blk_drew ?_ | refine blk_alloc ?_ _)); exact BK146.out⟩, ⟨by repeat (first | (with_reducible first | exact HB.out | apply below_alloc | apply pw_below_drewN | apply below_drew1 | refine below_set ?_ GE145.out | refine below_set ?_ GE146.out) | exact HB.out)⟩⟩
                · rw [if_neg c18] at H
                  exact absurd H (by simp)
              · rw [if_neg c17] at H
                exact absurd H (by simp)
      · rw [if_neg c7] at H
        have c7b0 : decide (x7_1 < 64) = false := decide_eq_false c7
        clear c7
        simp only [Option.some.injEq, Prod.mk.injEq] at H
        obtain ⟨rfl, rfl⟩ := H
        have hnb23 := NB146_145.out
        have hnc23 := NB145_146.out
        have hcz24_0 : wr.cell? ⟨gb146, 0, none⟩ = some (.int .u64 x147000_1) := (blk_cell BK146.out 0).trans rfl
        have hcz24_1 : wr.cell? ⟨gb146, 1, none⟩ = some (.int .u64 x147001_1) := (blk_cell BK146.out 1).trans rfl
        have hfz24_0 := blk_frozen BK146.out 0
        have hfz24_1 := blk_frozen BK146.out 1
        have hcz25_0 : wr.cell? ⟨gb145, 0, none⟩ = some (.int .u64 0) := (blk_cell BK145.out 0).trans rfl
        have hcz25_1 : wr.cell? ⟨gb145, 1, none⟩ = some (.int .u64 0) := (blk_cell BK145.out 1).trans rfl
        have hfz25_0 := blk_frozen BK145.out 0
        have hfz25_1 := blk_frozen BK145.out 1
        go_wp2
        refine bodyPost_ret (results_cell_row rfl _ _ gb145 43 #[.int .u64 x147000_1, .int .u64 x147001_1] (0, 0) _ rfl (by (with_reducible repeat (first | refine blk_drewN ?_ _ | refine blk_drew ?_ | refine blk_alloc ?_ _)); refine blk_put (cs := #[.int .u64 x147000_1, .int .u64 0]) ?_ 1 _ rfl; (with_reducible repeat (first | refine blk_drewN ?_ _ | refine blk_drew ?_ | refine blk_alloc ?_ _)); refine blk_put (cs := #[.int .u64 0, .int .u64 0]) ?_ 0 _ rfl; (with_reducible repeat (first | refine blk_drewN ?_ _ | refine blk_drew ?_ | refine blk_alloc ?_ _)); exact BK145.out) Try.underlying43 rfl (by kernel_rfl)) rfl ?_
        exact ⟨by first | rfl | (simp [errW_none, errW_some] <;> rfl) | (simp [*, errW_none, errW_some] <;> rfl), by repeat (first | (with_reducible first | exact HB.out | apply below_alloc | apply pw_below_drewN | apply below_drew1 | refine below_set ?_ GE145.out | refine below_set ?_ GE146.out) | exact HB.out)⟩

end Go.Proofs.Yteckjmejngieeaa.PTnumTwo
