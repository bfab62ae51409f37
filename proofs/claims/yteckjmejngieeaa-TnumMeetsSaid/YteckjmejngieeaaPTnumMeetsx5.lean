/- Functions of the program that some laws reach, as Lean functions, and proofs that the program's calls come to what they say: written by a program, for the texts that import it; each theorem bears its own conditions. -/
import Derived.Test.YteckjmejngieeaaPTnumMeetsx0
import Derived.Test.YteckjmejngieeaaPTnumMeetsx1
import Derived.Test.YteckjmejngieeaaPTnumMeetsx2
import Derived.Test.YteckjmejngieeaaPTnumMeetsx4
namespace Go.Proofs.Yteckjmejngieeaa.PTnumMeets
open Go.RowKit Go.Proofs.YteckjmejngieeaaW.PrintWords Go.Proofs.YteckjmejngieeaaW.PrintLast Go.Proofs.YteckjmejngieeaaW.PrintMore
attribute [local go_sem] max2_int min2_int max_two min_two max_three min_three max_four min_four   -- for this text's walks alone
set_option linter.unusedVariables false
set_option linter.unusedSimpArgs false

attribute [local go_sem high] eqA43
/-! ### halberdref06_Has: function 28 -/
def halberdref06_Has.l0 : Nat → Int → Int → Int → Int → Option (Bool)
  | 0, _, _, _, _ => none
  | k + 1, x1, x5, x180000, x180001 => if x5 < 64 then ((halberdref06_Bit.f k x180000 x180001 x5).bind fun bt180 => (if (Int.tmod x1 2) = 0 then (if bt180.1 = true then (if (Int.tmod x1 2) = 1 then (if bt180.2 = true then (halberdref06_Has.l0 k (IntKind.u64.wrap (Int.tdiv x1 2)) (wrap64 (x5 + 1)) x180000 x180001) else (some false)) else (halberdref06_Has.l0 k (IntKind.u64.wrap (Int.tdiv x1 2)) (wrap64 (x5 + 1)) x180000 x180001)) else (some false)) else (if (Int.tmod x1 2) = 1 then (if bt180.2 = true then (halberdref06_Has.l0 k (IntKind.u64.wrap (Int.tdiv x1 2)) (wrap64 (x5 + 1)) x180000 x180001) else (some false)) else (halberdref06_Has.l0 k (IntKind.u64.wrap (Int.tdiv x1 2)) (wrap64 (x5 + 1)) x180000 x180001)))) else (some true)
def halberdref06_Has.f (k : Nat) (a0_0 : Int) (a0_1 : Int) (a1 : Int) : Option (Bool) := halberdref06_Has.l0 k a1 0 a0_0 a0_1
theorem halberdref06_Has.mono_l : ∀ k, (∀ y0 y1 y2 y3, LeO (halberdref06_Has.l0 k y0 y1 y2 y3) (halberdref06_Has.l0 (k + 1) y0 y1 y2 y3))
  | 0 => fun _ _ _ _ r h => by simp [halberdref06_Has.l0] at h
  | k + 1 => by
    have ih0 := halberdref06_Has.mono_l k
    · intro y0 y1 y2 y3
      unfold halberdref06_Has.l0
      repeat' first
      | (with_reducible exact ih0 _ _ _ _)
      | (with_reducible exact halberdref06_Bit.mono _ _ _ _)
      | (with_reducible exact LeO.refl _)
      | (with_reducible exact LeO.none _)
      | (with_reducible refine LeO.ite ?_ ?_)
      | (with_reducible refine LeO.bind ?_ (fun _ => ?_))
      | exact ih0 _ _ _ _
      | exact halberdref06_Bit.mono _ _ _ _
      | exact LeO.none _
      | refine LeO.ite ?_ ?_
      | refine LeO.bind ?_ (fun _ => ?_)
theorem halberdref06_Has.mono : ∀ a0 a1 a2 k, LeO (halberdref06_Has.f k a0 a1 a2) (halberdref06_Has.f (k + 1) a0 a1 a2) := by
  intro a0 a1 a2 k
  have ih0 := halberdref06_Has.mono_l k
  unfold halberdref06_Has.f
  repeat' first
      | (with_reducible exact ih0 _ _ _ _)
      | (with_reducible exact halberdref06_Bit.mono _ _ _ _)
      | (with_reducible exact LeO.refl _)
      | (with_reducible exact LeO.none _)
      | (with_reducible refine LeO.ite ?_ ?_)
      | (with_reducible refine LeO.bind ?_ (fun _ => ?_))
      | exact ih0 _ _ _ _
      | exact halberdref06_Bit.mono _ _ _ _
      | exact LeO.none _
      | refine LeO.ite ?_ ?_
      | refine LeO.bind ?_ (fun _ => ?_)
set_option maxHeartbeats 8000000 in
set_option maxRecDepth 100000 in
theorem halberdref06_Has.calls (k : Nat) (a0_0 : Int) (a0_1 : Int) (a1 : Int) (r : Bool) (w : World) (h : halberdref06_Has.f k a0_0 a0_1 a1 = some r) :
    Calls Try.prog 28 #[.agg #[.int .u64 a0_0, .int .u64 a0_1], .int .u64 a1] w fun e w' => e = .returned (.bool r) ∧ Below w.heap.size w w' := by
  have hu43 := Try.underlying43
  have HB := Aside0.mk (Below.refl w.heap.size w)
  have H : (halberdref06_Has.l0 k a1 0 a0_0 a0_1) = some r := h
  clear h
  have H' := Aside0.mk H
  clear H
  go_enter Try.func28, Try.ntmps28
  go_wp2_with (first | ((with_reducible refine gate_dst (N := 2) rfl ?_); refine box_event ?hg (N := 2) ?hd (cs := #[.int .u64 a0_0, .int .u64 a0_1]) (t := 43) ?hr ?_; (case hd => rfl); (case hg => rfl); (case hr => first | (go_simp; done) | (go_simp; rfl)); intro gb179 hg w3 hbox hb; have n0_ := Aside0.mk (below_step (by repeat (first | (with_reducible first | exact HB.out | apply below_alloc | apply pw_below_drewN | apply below_drew1) | exact HB.out)) hb); have n1_ := Aside0.mk (hbox); have n2_ := Aside0.mk ((by rw [hg]; exact (below_size (by repeat (first | (with_reducible first | exact HB.out | apply below_alloc | apply pw_below_drewN | apply below_drew1) | exact HB.out))) : w.heap.size ≤ gb179)); have n3_ := Aside0.mk ((by rw [hg]; exact (below_size (by repeat (first | (with_reducible first | exact HB.out | apply below_alloc | apply pw_below_drewN | apply below_drew1) | exact HB.out))) : w.heap.size ≤ gb179)); clear HB; have HB := n0_; have BK179 := n1_; have GW179 := n2_; have GE179 := n3_; clear n0_ n1_ n2_ n3_; clear hb hbox hg))
  go_loopg [1, 5] k (fun kq v1 v5 w' => ∃ (x1_1 : Int) (x5_1 : Int), v1 = .int .u64 x1_1 ∧ v5 = .int .i64 x5_1 ∧ Aside0 (halberdref06_Has.l0 kq x1_1 x5_1 a0_0 a0_1 = some r) ∧ Aside0 (kq ≤ k) ∧ Aside0 (w'.heap[gb179]? = some (.cells #[.int .u64 a0_0, .int .u64 a0_1] 43 (0, 0))) ∧ Aside0 (Below w.heap.size w w'))
  case atStart => exact ⟨(a1), (0), (by first | rfl | (simp; done) | (simp [*]; done)), (by first | rfl | (simp; done) | (simp [*]; done)), H', ⟨Nat.le_refl _⟩, ⟨by (with_reducible repeat (first | refine blk_drewN ?_ _ | refine blk_drew ?_ | refine blk_alloc ?_ _)); exact BK179.out⟩, ⟨by repeat (first | (with_reducible first | exact HB.out | apply below_alloc | apply pw_below_drewN | apply below_drew1 | refine below_set ?_ GE179.out) | exact HB.out)⟩⟩
  case round =>
    clear H'
    try clear c2
    try clear p2
    obtain ⟨x1_1, x5_1, rfl, rfl, HA, HK1, BK179, HB⟩ := hrel
    cases gk with
    | zero => exact absurd HA.out (by simp [halberdref06_Has.l0])
    | succ k1 =>
      have H := HA.out
      clear HA
      simp only [halberdref06_Has.l0] at H
      by_cases c4 : x5_1 < 64
      · rw [if_pos c4] at H
        have c4b0 : decide (x5_1 < 64) = true := decide_eq_true c4
        clear c4
        replace H := Option.bind_eq_some_iff.mp H
        obtain ⟨⟨t180, t181⟩, A50, H⟩ := H
        replace H : (if (Int.tmod x1_1 2) = 0 then (if t180 = true then (if (Int.tmod x1_1 2) = 1 then (if t181 = true then (halberdref06_Has.l0 k1 (IntKind.u64.wrap (Int.tdiv x1_1 2)) (wrap64 (x5_1 + 1)) a0_0 a0_1) else (some false)) else (halberdref06_Has.l0 k1 (IntKind.u64.wrap (Int.tdiv x1_1 2)) (wrap64 (x5_1 + 1)) a0_0 a0_1)) else (some false)) else (if (Int.tmod x1_1 2) = 1 then (if t181 = true then (halberdref06_Has.l0 k1 (IntKind.u64.wrap (Int.tdiv x1_1 2)) (wrap64 (x5_1 + 1)) a0_0 a0_1) else (some false)) else (halberdref06_Has.l0 k1 (IntKind.u64.wrap (Int.tdiv x1_1 2)) (wrap64 (x5_1 + 1)) a0_0 a0_1))) = some r := H
        have A5 := Aside0.mk A50
        clear A50
        by_cases c6 : (Int.tmod x1_1 2) = 0
        · rw [if_pos c6] at H
          have c6b0 : ((Int.tmod x1_1 2) == 0) = true := beq_iff_eq.mpr c6
          have c6b1 : ((Int.tmod x1_1 2) != 0) = false := bne_eq_false_iff_eq.mpr c6
          clear c6
          by_cases c7 : t180 = true
          · subst c7
            have H1 : (if (Int.tmod x1_1 2) = 1 then (if t181 = true then (halberdref06_Has.l0 k1 (IntKind.u64.wrap (Int.tdiv x1_1 2)) (wrap64 (x5_1 + 1)) a0_0 a0_1) else (some false)) else (halberdref06_Has.l0 k1 (IntKind.u64.wrap (Int.tdiv x1_1 2)) (wrap64 (x5_1 + 1)) a0_0 a0_1)) = some r := by rw [if_pos rfl] at H; exact H
            clear H
            have H := H1
            clear H1
            by_cases c8 : (Int.tmod x1_1 2) = 1
            · rw [if_pos c8] at H
              have c8b0 : ((Int.tmod x1_1 2) == 1) = true := beq_iff_eq.mpr c8
              have c8b1 : ((Int.tmod x1_1 2) != 1) = false := bne_eq_false_iff_eq.mpr c8
              clear c8
              by_cases c9 : t181 = true
              · subst c9
                have H1 : (halberdref06_Has.l0 k1 (IntKind.u64.wrap (Int.tdiv x1_1 2)) (wrap64 (x5_1 + 1)) a0_0 a0_1) = some r := by rw [if_pos rfl] at H; exact H
                clear H
                have H := H1
                clear H1
                have H' := Aside0.mk H
                clear H
                have hcz10_0 : wr.cell? ⟨gb179, 0, none⟩ = some (.int .u64 a0_0) := (blk_cell BK179.out 0).trans rfl
                have hcz10_1 : wr.cell? ⟨gb179, 1, none⟩ = some (.int .u64 a0_1) := (blk_cell BK179.out 1).trans rfl
                have hfz10_0 := blk_frozen BK179.out 0
                have hfz10_1 := blk_frozen BK179.out 1
                go_wp2_with (first | ((with_reducible refine gate_callee (f := 62) rfl ?_); refine goesL_ (some 15) rfl rfl Try.func62 (by kernel_rfl) rfl #[.agg #[.int .u64 a0_0, .int .u64 a0_1], .int .i64 x5_1] rfl (by (try simp only [List.map_toArray, List.map_cons, List.map_nil]); first | done | rfl | (simp only [List.length_drop, List.length_take]; rfl)) ?_; (with_reducible refine (halberdref06_Bit.calls k1 a0_0 a0_1 x5_1 true true _ A5.out).mono ?_); rintro e w11 ⟨rfl, hb⟩; refine ⟨_, rfl, ?_⟩; have n0_ := Aside0.mk (blk_below (g := gb179) (o := .cells #[.int .u64 a0_0, .int .u64 a0_1] 43 (0, 0)) (by (with_reducible repeat (first | refine blk_drewN ?_ _ | refine blk_drew ?_ | refine blk_alloc ?_ _)); exact BK179.out) hb); have n1_ := Aside0.mk (below_step (by repeat (first | (with_reducible first | exact HB.out | apply below_alloc | apply pw_below_drewN | apply below_drew1 | refine below_set ?_ GE179.out) | exact HB.out)) hb); clear BK179; clear HB; have BK179 := n0_; have HB := n1_; clear n0_ n1_; (try clear hb); (try clear hb2); (try clear hk); (try clear hi)))
                go_roundg k1
                case measure => have := HK1.out; omega
                case rel => exact ⟨(IntKind.u64.wrap (Int.tdiv x1_1 2)), (wrap64 (x5_1 + 1)), (by first | rfl | (simp; done) | (simp [*]; done)), (by first | rfl | (simp; done) | (simp [*]; done)), H', ⟨by have := HK1.out; omega⟩, ⟨by (with_reducible repeat (first | refine blk_drewN ?_ _ | refine blk_drew ?_ | refine blk_alloc ?_ _)); exact BK179.out⟩, ⟨by repeat (first | (with_reducible first | exact HB.out | apply below_alloc | apply pw_below_drewN | apply below_drew1 | refine below_set ?_ GE179.out) | exact HB.out)⟩⟩
              · replace c9 := Bool.eq_false_iff.mpr c9
                subst c9
                have H1 : (some false) = some r := by rw [if_neg (show ¬ (false = true) by decide)] at H; exact H
                clear H
                have H := H1
                clear H1
                obtain rfl := Option.some.inj H
                have hcz12_0 : wr.cell? ⟨gb179, 0, none⟩ = some (.int .u64 a0_0) := (blk_cell BK179.out 0).trans rfl
                have hcz12_1 : wr.cell? ⟨gb179, 1, none⟩ = some (.int .u64 a0_1) := (blk_cell BK179.out 1).trans rfl
                have hfz12_0 := blk_frozen BK179.out 0
                have hfz12_1 := blk_frozen BK179.out 1
                go_wp2_with (first | ((with_reducible refine gate_callee (f := 62) rfl ?_); refine goesL_ (some 15) rfl rfl Try.func62 (by kernel_rfl) rfl #[.agg #[.int .u64 a0_0, .int .u64 a0_1], .int .i64 x5_1] rfl (by (try simp only [List.map_toArray, List.map_cons, List.map_nil]); first | done | rfl | (simp only [List.length_drop, List.length_take]; rfl)) ?_; (with_reducible refine (halberdref06_Bit.calls k1 a0_0 a0_1 x5_1 true false _ A5.out).mono ?_); rintro e w13 ⟨rfl, hb⟩; refine ⟨_, rfl, ?_⟩; have n0_ := Aside0.mk (blk_below (g := gb179) (o := .cells #[.int .u64 a0_0, .int .u64 a0_1] 43 (0, 0)) (by (with_reducible repeat (first | refine blk_drewN ?_ _ | refine blk_drew ?_ | refine blk_alloc ?_ _)); exact BK179.out) hb); have n1_ := Aside0.mk (below_step (by repeat (first | (with_reducible first | exact HB.out | apply below_alloc | apply pw_below_drewN | apply below_drew1 | refine below_set ?_ GE179.out) | exact HB.out)) hb); clear BK179; clear HB; have BK179 := n0_; have HB := n1_; clear n0_ n1_; (try clear hb); (try clear hb2); (try clear hk); (try clear hi)))
                go_ret
                exact ⟨by first | rfl | (simp [errW_none, errW_some] <;> rfl) | (simp [*, errW_none, errW_some] <;> rfl), by repeat (first | (with_reducible first | exact HB.out | apply below_alloc | apply pw_below_drewN | apply below_drew1 | refine below_set ?_ GE179.out) | exact HB.out)⟩
            · rw [if_neg c8] at H
              have c8b0 : ((Int.tmod x1_1 2) == 1) = false := beq_eq_false_iff_ne.mpr c8
              have c8b1 : ((Int.tmod x1_1 2) != 1) = true := bne_iff_ne.mpr c8
              have H' := Aside0.mk H
              clear H
              have hcz14_0 : wr.cell? ⟨gb179, 0, none⟩ = some (.int .u64 a0_0) := (blk_cell BK179.out 0).trans rfl
              have hcz14_1 : wr.cell? ⟨gb179, 1, none⟩ = some (.int .u64 a0_1) := (blk_cell BK179.out 1).trans rfl
              have hfz14_0 := blk_frozen BK179.out 0
              have hfz14_1 := blk_frozen BK179.out 1
              go_wp2_with (first | ((with_reducible refine gate_callee (f := 62) rfl ?_); refine goesL_ (some 15) rfl rfl Try.func62 (by kernel_rfl) rfl #[.agg #[.int .u64 a0_0, .int .u64 a0_1], .int .i64 x5_1] rfl (by (try simp only [List.map_toArray, List.map_cons, List.map_nil]); first | done | rfl | (simp only [List.length_drop, List.length_take]; rfl)) ?_; (with_reducible refine (halberdref06_Bit.calls k1 a0_0 a0_1 x5_1 true t181 _ A5.out).mono ?_); rintro e w15 ⟨rfl, hb⟩; refine ⟨_, rfl, ?_⟩; have n0_ := Aside0.mk (blk_below (g := gb179) (o := .cells #[.int .u64 a0_0, .int .u64 a0_1] 43 (0, 0)) (by (with_reducible repeat (first | refine blk_drewN ?_ _ | refine blk_drew ?_ | refine blk_alloc ?_ _)); exact BK179.out) hb); have n1_ := Aside0.mk (below_step (by repeat (first | (with_reducible first | exact HB.out | apply below_alloc | apply pw_below_drewN | apply below_drew1 | refine below_set ?_ GE179.out) | exact HB.out)) hb); clear BK179; clear HB; have BK179 := n0_; have HB := n1_; clear n0_ n1_; (try clear hb); (try clear hb2); (try clear hk); (try clear hi)))
              go_roundg k1
              case measure => have := HK1.out; omega
              case rel => exact ⟨(IntKind.u64.wrap (Int.tdiv x1_1 2)), (wrap64 (x5_1 + 1)), (by first | rfl | (simp; done) | (simp [*]; done)), (by first | rfl | (simp; done) | (simp [*]; done)), H', ⟨by have := HK1.out; omega⟩, ⟨by (with_reducible repeat (first | refine blk_drewN ?_ _ | refine blk_drew ?_ | refine blk_alloc ?_ _)); exact BK179.out⟩, ⟨by repeat (first | (with_reducible first | exact HB.out | apply below_alloc | apply pw_below_drewN | apply below_drew1 | refine below_set ?_ GE179.out) | exact HB.out)⟩⟩
          · replace c7 := Bool.eq_false_iff.mpr c7
            subst c7
            have H1 : (some false) = some r := by rw [if_neg (show ¬ (false = true) by decide)] at H; exact H
            clear H
            have H := H1
            clear H1
            obtain rfl := Option.some.inj H
            have hcz16_0 : wr.cell? ⟨gb179, 0, none⟩ = some (.int .u64 a0_0) := (blk_cell BK179.out 0).trans rfl
            have hcz16_1 : wr.cell? ⟨gb179, 1, none⟩ = some (.int .u64 a0_1) := (blk_cell BK179.out 1).trans rfl
            have hfz16_0 := blk_frozen BK179.out 0
            have hfz16_1 := blk_frozen BK179.out 1
            go_wp2_with (first | ((with_reducible refine gate_callee (f := 62) rfl ?_); refine goesL_ (some 15) rfl rfl Try.func62 (by kernel_rfl) rfl #[.agg #[.int .u64 a0_0, .int .u64 a0_1], .int .i64 x5_1] rfl (by (try simp only [List.map_toArray, List.map_cons, List.map_nil]); first | done | rfl | (simp only [List.length_drop, List.length_take]; rfl)) ?_; (with_reducible refine (halberdref06_Bit.calls k1 a0_0 a0_1 x5_1 false t181 _ A5.out).mono ?_); rintro e w17 ⟨rfl, hb⟩; refine ⟨_, rfl, ?_⟩; have n0_ := Aside0.mk (blk_below (g := gb179) (o := .cells #[.int .u64 a0_0, .int .u64 a0_1] 43 (0, 0)) (by (with_reducible repeat (first | refine blk_drewN ?_ _ | refine blk_drew ?_ | refine blk_alloc ?_ _)); exact BK179.out) hb); have n1_ := Aside0.mk (below_step (by repeat (first | (with_reducible first | exact HB.out | apply below_alloc | apply pw_below_drewN | apply below_drew1 | refine below_set ?_ GE179.out) | exact HB.out)) hb); clear BK179; clear HB; have BK179 := n0_; have HB := n1_; clear n0_ n1_; (try clear hb); (try clear hb2); (try clear hk); (try clear hi)))
            go_ret
            exact ⟨by first | rfl | (simp [errW_none, errW_some] <;> rfl) | (simp [*, errW_none, errW_some] <;> rfl), by repeat (first | (with_reducible first | exact HB.out | apply below_alloc | apply pw_below_drewN | apply below_drew1 | refine below_set ?_ GE179.out) | exact HB.out)⟩
        · rw [if_neg c6] at H
          have c6b0 : ((Int.tmod x1_1 2) == 0) = false := beq_eq_false_iff_ne.mpr c6
          have c6b1 : ((Int.tmod x1_1 2) != 0) = true := bne_iff_ne.mpr c6
          by_cases c18 : (Int.tmod x1_1 2) = 1
          · rw [if_pos c18] at H
            have c18b0 : ((Int.tmod x1_1 2) == 1) = true := beq_iff_eq.mpr c18
            have c18b1 : ((Int.tmod x1_1 2) != 1) = false := bne_eq_false_iff_eq.mpr c18
            clear c18
            by_cases c19 : t181 = true
            · subst c19
              have H1 : (halberdref06_Has.l0 k1 (IntKind.u64.wrap (Int.tdiv x1_1 2)) (wrap64 (x5_1 + 1)) a0_0 a0_1) = some r := by rw [if_pos rfl] at H; exact H
              clear H
              have H := H1
              clear H1
              have H' := Aside0.mk H
              clear H
              have hcz20_0 : wr.cell? ⟨gb179, 0, none⟩ = some (.int .u64 a0_0) := (blk_cell BK179.out 0).trans rfl
              have hcz20_1 : wr.cell? ⟨gb179, 1, none⟩ = some (.int .u64 a0_1) := (blk_cell BK179.out 1).trans rfl
              have hfz20_0 := blk_frozen BK179.out 0
              have hfz20_1 := blk_frozen BK179.out 1
              go_wp2_with (first | ((with_reducible refine gate_callee (f := 62) rfl ?_); refine goesL_ (some 15) rfl rfl Try.func62 (by kernel_rfl) rfl #[.agg #[.int .u64 a0_0, .int .u64 a0_1], .int .i64 x5_1] rfl (by (try simp only [List.map_toArray, List.map_cons, List.map_nil]); first | done | rfl | (simp only [List.length_drop, List.length_take]; rfl)) ?_; (with_reducible refine (halberdref06_Bit.calls k1 a0_0 a0_1 x5_1 t180 true _ A5.out).mono ?_); rintro e w21 ⟨rfl, hb⟩; refine ⟨_, rfl, ?_⟩; have n0_ := Aside0.mk (blk_below (g := gb179) (o := .cells #[.int .u64 a0_0, .int .u64 a0_1] 43 (0, 0)) (by (with_reducible repeat (first | refine blk_drewN ?_ _ | refine blk_drew ?_ | refine blk_alloc ?_ _)); exact BK179.out) hb); have n1_ := Aside0.mk (below_step (by repeat (first | (with_reducible first | exact HB.out | apply below_alloc | apply pw_below_drewN | apply below_drew1 | refine below_set ?_ GE179.out) | exact HB.out)) hb); clear BK179; clear HB; have BK179 := n0_; have HB := n1_; clear n0_ n1_; (try clear hb); (try clear hb2); (try clear hk); (try clear hi)))
              go_roundg k1
              case measure => have := HK1.out; omega
              case rel => exact ⟨(IntKind.u64.wrap (Int.tdiv x1_1 2)), (wrap64 (x5_1 + 1)), (by first | rfl | (simp; done) | (simp [*]; done)), (by first | rfl | (simp; done) | (simp [*]; done)), H', ⟨by have := HK1.out; omega⟩, ⟨by (with_reducible repeat (first | refine blk_drewN ?_ _ | refine blk_drew ?_ | refine blk_alloc ?_ _)); exact BK179.out⟩, ⟨by repeat (first | (with_reducible first | exact HB.out | apply below_alloc | apply pw_below_drewN | apply below_drew1 | refine below_set ?_ GE179.out) | exact HB.out)⟩⟩
            · replace c19 := Bool.eq_false_iff.mpr c19
              subst c19
              have H1 : (some false) = some r := by rw [if_neg (show ¬ (false = true) by decide)] at H; exact H
              clear H
              have H := H1
              clear H1
              obtain rfl := Option.some.inj H
              have hcz22_0 : wr.cell? ⟨gb179, 0, none⟩ = some (.int .u64 a0_0) := (blk_cell BK179.out 0).trans rfl
              have hcz22_1 : wr.cell? ⟨gb179, 1, none⟩ = some (.int .u64 a0_1) := (blk_cell BK179.out 1).trans rfl
              have hfz22_0 := blk_frozen BK179.out 0
              have hfz22_1 := blk_frozen BK179.out 1
              go_wp2_with (first | ((with_reducible refine gate_callee (f := 62) rfl ?_); refine goesL_ (some 15) rfl rfl Try.func62 (by kernel_rfl) rfl #[.agg #[.int .u64 a0_0, .int .u64 a0_1], .int .i64 x5_1] rfl (by (try simp only [List.map_toArray, List.map_cons, List.map_nil]); first | done | rfl | (simp only [List.length_drop, List.length_take]; rfl)) ?_; (with_reducible refine (halberdref06_Bit.calls k1 a0_0 a0_1 x5_1 t180 false _ A5.out).mono ?_); rintro e w23 ⟨rfl, hb⟩; refine ⟨_, rfl, ?_⟩; have n0_ := Aside0.mk (blk_below (g := gb179) (o := .cells #[.int .u64 a0_0, .int .u64 a0_1] 43 (0, 0)) (by (with_reducible repeat (first | refine blk_drewN ?_ _ | refine blk_drew ?_ | refine blk_alloc ?_ _)); exact BK179.out) hb); have n1_ := Aside0.mk (below_step (by repeat (first | (with_reducible first | exact HB.out | apply below_alloc | apply pw_below_drewN | apply below_drew1 | refine below_set ?_ GE179.out) | exact HB.out)) hb); clear BK179; clear HB; have BK179 := n0_; have HB := n1_; clear n0_ n1_; (try clear hb); (try clear hb2); (try clear hk); (try clear hi)))
              go_ret
              exact ⟨by first | rfl | (simp [errW_none, errW_some] <;> rfl) | (simp [*, errW_none, errW_some] <;> rfl), by repeat (first | (with_reducible first | exact HB.out | apply below_alloc | apply pw_below_drewN | apply below_drew1 | refine below_set ?_ GE179.out) | exact HB.out)⟩
          · rw [if_neg c18] at H
            have c18b0 : ((Int.tmod x1_1 2) == 1) = false := beq_eq_false_iff_ne.mpr c18
            have c18b1 : ((Int.tmod x1_1 2) != 1) = true := bne_iff_ne.mpr c18
            have H' := Aside0.mk H
            clear H
            have hcz24_0 : wr.cell? ⟨gb179, 0, none⟩ = some (.int .u64 a0_0) := (blk_cell BK179.out 0).trans rfl
            have hcz24_1 : wr.cell? ⟨gb179, 1, none⟩ = some (.int .u64 a0_1) := (blk_cell BK179.out 1).trans rfl
            have hfz24_0 := blk_frozen BK179.out 0
            have hfz24_1 := blk_frozen BK179.out 1
            go_wp2_with (first | ((with_reducible refine gate_callee (f := 62) rfl ?_); refine goesL_ (some 15) rfl rfl Try.func62 (by kernel_rfl) rfl #[.agg #[.int .u64 a0_0, .int .u64 a0_1], .int .i64 x5_1] rfl (by (try simp only [List.map_toArray, List.map_cons, List.map_nil]); first | done | rfl | (simp only [List.length_drop, List.length_take]; rfl)) ?_; (with_reducible refine (halberdref06_Bit.calls k1 a0_0 a0_1 x5_1 t180 t181 _ A5.out).mono ?_); rintro e w25 ⟨rfl, hb⟩; refine ⟨_, rfl, ?_⟩; have n0_ := Aside0.mk (blk_below (g := gb179) (o := .cells #[.int .u64 a0_0, .int .u64 a0_1] 43 (0, 0)) (by (with_reducible repeat (first | refine blk_drewN ?_ _ | refine blk_drew ?_ | refine blk_alloc ?_ _)); exact BK179.out) hb); have n1_ := Aside0.mk (below_step (by repeat (first | (with_reducible first | exact HB.out | apply below_alloc | apply pw_below_drewN | apply below_drew1 | refine below_set ?_ GE179.out) | exact HB.out)) hb); clear BK179; clear HB; have BK179 := n0_; have HB := n1_; clear n0_ n1_; (try clear hb); (try clear hb2); (try clear hk); (try clear hi)))
            go_roundg k1
            case measure => have := HK1.out; omega
            case rel => exact ⟨(IntKind.u64.wrap (Int.tdiv x1_1 2)), (wrap64 (x5_1 + 1)), (by first | rfl | (simp; done) | (simp [*]; done)), (by first | rfl | (simp; done) | (simp [*]; done)), H', ⟨by have := HK1.out; omega⟩, ⟨by (with_reducible repeat (first | refine blk_drewN ?_ _ | refine blk_drew ?_ | refine blk_alloc ?_ _)); exact BK179.out⟩, ⟨by repeat (first | (with_reducible first | exact HB.out | apply below_alloc | apply pw_below_drewN | apply below_drew1 | refine below_set ?_ GE179.out) | exact HB.out)⟩⟩
      · rw [if_neg c4] at H
        have c4b0 : decide (x5_1 < 64) = false := decide_eq_false c4
        clear c4
        obtain rfl := Option.some.inj H
        go_wp2
        go_ret
        exact ⟨by first | rfl | (simp [errW_none, errW_some] <;> rfl) | (simp [*, errW_none, errW_some] <;> rfl), by repeat (first | (with_reducible first | exact HB.out | apply below_alloc | apply pw_below_drewN | apply below_drew1 | refine below_set ?_ GE179.out) | exact HB.out)⟩

/-! ### tnum_Has: function 29 -/
def tnum_Has.f (a0_0 : Int) (a0_1 : Int) (a1 : Int) : Option (Bool) := (tnum_right.f a0_0 a0_1).bind fun bt183 => (some ((Go.bits .andNot .u64 a1 a0_1) == bt183.1))
def tnum_Has.T1 : Bool × List (List Nat × List Nat) := (true, [([], []), ([], []), ([1], [1]), ([0, 2], [0, 2]), ([], []), ([4], [4]), ([5], [5]), ([3, 6], [3, 6]), ([7, 5, 0, 1, 2, 3, 4, 5, 6, 7], [7])])
def tnum_Has.B1 : List Nat := [0, 0, 2, 7, 0, 16, 48, 127, 255]
theorem tnum_Has.tab1 : rtab .any (opsOf Try.f29 1) = tnum_Has.T1 := by kernel_rfl
theorem tnum_Has.bits1 : waitsOk tnum_Has.T1.2 tnum_Has.B1 = true := by kernel_rfl
set_option maxHeartbeats 8000000 in
set_option maxRecDepth 100000 in
theorem tnum_Has.calls (a0_0 : Int) (a0_1 : Int) (a1 : Int) (r : Bool) (w : World) (h : tnum_Has.f a0_0 a0_1 a1 = some r) :
    Calls Try.prog 29 #[.agg #[.int .u64 a0_0, .int .u64 a0_1], .int .u64 a1] w fun e w' => e = .returned (.bool r) ∧ Below w.heap.size w w' := by
  have hfd43_0 : ∀ (x0 x1 : Value) (w_ : World), (Instr.field 43 (.agg #[x0, x1]) 0).run Try.prog w_ = .ok x0 w_ := fun x0 x1 w_ => by kernel_rfl
  have hu43 := Try.underlying43
  have HB := Aside0.mk (Below.refl w.heap.size w)
  have H : ((tnum_right.f a0_0 a0_1).bind fun bt183 => (some ((Go.bits .andNot .u64 a1 a0_1) == bt183.1))) = some r := h
  clear h
  replace H := Option.bind_eq_some_iff.mp H
  obtain ⟨⟨t183, t184⟩, A30, H⟩ := H
  replace H : (some ((Go.bits .andNot .u64 a1 a0_1) == t183)) = some r := H
  have A3 := Aside0.mk A30
  clear A30
  obtain rfl := Option.some.inj H
  go_enter Try.func29, Try.ntmps29
  try go_wp2_with (first | ((with_reducible refine gate_dst (N := 2) rfl ?_); refine box_event ?hg (N := 2) ?hd (cs := #[.int .u64 a0_0, .int .u64 a0_1]) (t := 43) ?hr ?_; (case hd => rfl); (case hg => rfl); (case hr => first | (go_simp; done) | (go_simp; rfl)); intro gb182 hg w4 hbox hb; have n0_ := Aside0.mk (below_step (by repeat (first | (with_reducible first | exact HB.out | apply below_alloc | apply pw_below_drewN | apply below_drew1) | exact HB.out)) hb); have n1_ := Aside0.mk (hbox); have n2_ := Aside0.mk ((by rw [hg]; exact (below_size (by repeat (first | (with_reducible first | exact HB.out | apply below_alloc | apply pw_below_drewN | apply below_drew1) | exact HB.out))) : w.heap.size ≤ gb182)); have n3_ := Aside0.mk ((by rw [hg]; exact (below_size (by repeat (first | (with_reducible first | exact HB.out | apply below_alloc | apply pw_below_drewN | apply below_drew1) | exact HB.out))) : w.heap.size ≤ gb182)); clear HB; have HB := n0_; have BK182 := n1_; have GW182 := n2_; have GE182 := n3_; clear n0_ n1_ n2_ n3_; clear hb hbox hg))
  have n0_ := Aside0.mk (blk_drew BK182.out)
  have n1_ := Aside0.mk (below_drew1 HB.out)
  clear BK182
  clear HB
  have BK182 := n0_
  have HB := n1_
  clear n0_ n1_
  refine start_ (n := 9) (S := fun w' => w'.cell? ⟨gb182, 0, none⟩ = some (.int .u64 a0_0) ∧ w'.cell? ⟨gb182, 1, none⟩ = some (.int .u64 a0_1)) (ds := []) #[false, false, false, false, false, false, false, false, false] (by kernel_rfl) rfl rfl ⟨(blk_cell BK182.out 0).trans rfl, (blk_cell BK182.out 1).trans rfl⟩ (fun hHeld => ?_); refine with_tabW tnum_Has.tab1 tnum_Has.bits1 (fun HT_ HW_ => ?_)
  generalize w4.drew = w5 at BK182 HB hHeld ⊢
  refine pure_ (i := 0) (N := some 5) (v := ?_) (a' := ?_) #[true, false, false, false, false, false, false, false, false] rfl rfl (any_of HT_.out (by kernel_rfl)) (fun _ _ _ h => h) (Or.inl ⟨by rfl, ?_⟩) ?_ ?_
  rotate_left
  · intro w'
    go_simp
    with_reducible rfl
  rotate_left
  · simp only [Act.put, List.setIfInBounds_toArray, List.set_cons_zero, List.set_cons_succ, i64_w, i32_w]
    rfl
  refine pure_ (i := 1) (N := some 6) (v := ?_) (a' := ?_) #[true, true, false, false, false, false, false, false, false] rfl rfl (any_of HT_.out (by kernel_rfl)) (fun _ _ _ h => h) (Or.inl ⟨by rfl, ?_⟩) ?_ ?_
  rotate_left
  · intro w'
    go_simp
    with_reducible rfl
  rotate_left
  · simp only [Act.put, List.setIfInBounds_toArray, List.set_cons_zero, List.set_cons_succ, i64_w, i32_w]
    rfl
  refine take_ (i := 2) (N := some 7) (v := ?_) (a' := ?_) #[true, true, true, false, false, false, false, false, false] rfl rfl (take_ofW HT_.out HW_.out (by kernel_rfl)) (fun _ _ _ h => h) (Or.inl ⟨by rfl, ?_⟩) hHeld ?_ ?_
  rotate_left
  · rintro w' ⟨s0, s1⟩
    go_simp
    with_reducible rfl
  rotate_left
  · simp only [Act.put, List.setIfInBounds_toArray, List.set_cons_zero, List.set_cons_succ, i64_w, i32_w]
    rfl
  refine pure_ (i := 3) (N := some 8) (v := ?_) (a' := ?_) #[true, true, true, true, false, false, false, false, false] rfl rfl (any_of HT_.out (by kernel_rfl)) (fun _ _ _ h => h) (Or.inl ⟨by rfl, ?_⟩) ?_ ?_
  rotate_left
  · intro w'
    go_simp
    with_reducible rfl
  rotate_left
  · simp only [Act.put, List.setIfInBounds_toArray, List.set_cons_zero, List.set_cons_succ, i64_w, i32_w]
    rfl
  refine take_ (i := 4) (N := some 9) (v := ?_) (a' := ?_) #[true, true, true, true, true, false, false, false, false] rfl rfl (take_ofW HT_.out HW_.out (by kernel_rfl)) (fun _ _ _ h => h) (Or.inl ⟨by rfl, ?_⟩) hHeld ?_ ?_
  rotate_left
  · rintro w' ⟨s0, s1⟩
    go_simp
    with_reducible rfl
  rotate_left
  · simp only [Act.put, List.setIfInBounds_toArray, List.set_cons_zero, List.set_cons_succ, i64_w, i32_w]
    rfl
  refine one_ (i := 5) (N := some 10) #[true, true, true, true, true, true, false, false, false] rfl rfl (one_of HT_.out (by kernel_rfl)) (by decide) (fun K hK => ?_)
  refine goes_ Try.func61 (by kernel_rfl) rfl #[.agg #[.int .u64 a0_0, .int .u64 a0_1]] (by rfl) rfl rfl (by (try simp only [List.map_toArray, List.map_cons, List.map_nil]); first | done | rfl | (simp only [List.length_drop, List.length_take]; rfl)) ?_
  with_reducible refine (tnum_right.calls a0_0 a0_1 t183 t184 _ A3.out).mono ?_
  rintro e w6 ⟨rfl, hb⟩
  refine ⟨_, rfl, ?_⟩
  have n0_ := Aside0.mk (blk_below (g := gb182) (o := .cells #[.int .u64 a0_0, .int .u64 a0_1] 43 (0, 0)) (by (with_reducible repeat (first | refine blk_drewN ?_ _ | refine blk_drew ?_ | refine blk_alloc ?_ _)); exact BK182.out) hb)
  have n1_ := Aside0.mk (below_step (by repeat (first | (with_reducible first | exact HB.out | apply below_alloc | apply pw_below_drewN | apply below_drew1 | refine below_set ?_ GE182.out) | exact HB.out)) hb)
  clear BK182
  clear HB
  have BK182 := n0_
  have HB := n1_
  clear n0_ n1_
  (try clear hb)
  (try clear hb2)
  (try clear hk)
  (try clear hi)
  refine hK.out _ _ ⟨(blk_cell BK182.out 0).trans rfl, (blk_cell BK182.out 1).trans rfl⟩ (fun hHeld => ?_)
  clear hK K
  refine norm_ (a' := ?_) ?_ ?_
  rotate_left
  · show Act.put _ (some 10) _ = _
    simp only [Act.put, List.setIfInBounds_toArray, List.set_cons_zero, List.set_cons_succ, i64_w, i32_w]
    rfl
  refine pure_ (i := 6) (N := some 11) (v := ?_) (a' := ?_) #[true, true, true, true, true, true, true, false, false] rfl rfl (any_of HT_.out (by kernel_rfl)) (fun _ _ _ h => h) (Or.inl ⟨by rfl, ?_⟩) ?_ ?_
  rotate_left
  · intro w'
    go_simp
    with_reducible rfl
  rotate_left
  · simp only [Act.put, List.setIfInBounds_toArray, List.set_cons_zero, List.set_cons_succ, i64_w, i32_w]
    rfl
  refine pure_ (i := 7) (N := some 12) (v := ?_) (a' := ?_) #[true, true, true, true, true, true, true, true, false] rfl rfl (any_of HT_.out (by kernel_rfl)) (fun _ _ _ h => h) (Or.inl ⟨by rfl, ?_⟩) ?_ ?_
  rotate_left
  · intro w'
    go_simp
    with_reducible rfl
  rotate_left
  · simp only [Act.put, List.setIfInBounds_toArray, List.set_cons_zero, List.set_cons_succ, i64_w, i32_w]
    rfl
  refine pure_ (i := 8) (N := some 4) (v := ?_) (a' := ?_) #[true, true, true, true, true, true, true, true, true] rfl rfl (any_of HT_.out (by kernel_rfl)) (fun _ _ _ h => h) (Or.inl ⟨by rfl, ?_⟩) ?_ ?_
  rotate_left
  · intro w'
    go_simp
    with_reducible rfl
  rotate_left
  · simp only [Act.put, List.setIfInBounds_toArray, List.set_cons_zero, List.set_cons_succ, i64_w, i32_w]
    rfl
  refine done_ (done_of HT_.out (by kernel_rfl)) ?_
  try go_wp2
  go_ret
  exact ⟨by first | rfl | (simp [errW_none, errW_some] <;> rfl) | (simp [*, errW_none, errW_some] <;> rfl), by repeat (first | (with_reducible first | exact HB.out | apply below_alloc | apply pw_below_drewN | apply below_drew1 | refine below_set ?_ GE182.out) | exact HB.out)⟩

/-! ### halberdlaw06_TnumMeets: function 4 -/
def halberdlaw06_TnumMeets.j0 : Nat → Int → Bool → Bool → Int → Int → Int → Int → Int → Int → Option (Bool)
  | 0, _, _, _, _, _, _, _, _, _ => none
  | k + 1, x2, x8, x33, x186000, x186001, x187000, x187001, x192000, x192001 => if x33 = true then (some false) else ((halberdref06_Has.f k x186000 x186001 x2).bind fun t196 => (if t196 = true then ((halberdref06_Has.f k x187000 x187001 x2).bind fun t197 => (if x8 = true then ((tnum_Has.f x192000 x192001 x2).bind fun t198 => (some (t198 == t197))) else (if t197 = true then (some false) else (some true)))) else (if x8 = true then ((tnum_Has.f x192000 x192001 x2).bind fun t199 => (some (t199 == false))) else (some true))))
def halberdlaw06_TnumMeets.f (k : Nat) (a0_0 : Int) (a0_1 : Int) (a1_0 : Int) (a1_1 : Int) (a2 : Int) : Option (Bool) := (halberdlaw06_alive.f).bind fun t187 => (if t187 = true then ((tnum_Meet.f a0_0 a0_1 a1_0 a1_1).bind fun bt188 => ((halberdref06_Meet.f k a0_0 a0_1 a1_0 a1_1).bind fun bt192 => (if (!(bt188.1 == bt192.1) || (!(bt188.2.1 == bt192.2.1))) = true then (halberdlaw06_TnumMeets.j0 k a2 bt188.2.2 true a0_0 a0_1 a1_0 a1_1 bt188.1 bt188.2.1) else (halberdlaw06_TnumMeets.j0 k a2 bt188.2.2 (bt188.2.2 != bt192.2.2) a0_0 a0_1 a1_0 a1_1 bt188.1 bt188.2.1)))) else (some false))
theorem halberdlaw06_TnumMeets.mono_l : ∀ k, (∀ y0 y1 y2 y3 y4 y5 y6 y7 y8, LeO (halberdlaw06_TnumMeets.j0 k y0 y1 y2 y3 y4 y5 y6 y7 y8) (halberdlaw06_TnumMeets.j0 (k + 1) y0 y1 y2 y3 y4 y5 y6 y7 y8))
  | 0 => fun _ _ _ _ _ _ _ _ _ r h => by simp [halberdlaw06_TnumMeets.j0] at h
  | k + 1 => by
    have ih0 := halberdlaw06_TnumMeets.mono_l k
    · intro y0 y1 y2 y3 y4 y5 y6 y7 y8
      unfold halberdlaw06_TnumMeets.j0
      repeat' first
      | (with_reducible exact ih0 _ _ _ _ _ _ _ _ _)
      | (with_reducible exact halberdref06_Has.mono _ _ _ _)
      | (with_reducible exact halberdref06_Meet.mono _ _ _ _ _)
      | (with_reducible exact LeO.refl _)
      | (with_reducible exact LeO.none _)
      | (with_reducible refine LeO.ite ?_ ?_)
      | (with_reducible refine LeO.bind ?_ (fun _ => ?_))
      | exact ih0 _ _ _ _ _ _ _ _ _
      | exact halberdref06_Has.mono _ _ _ _
      | exact halberdref06_Meet.mono _ _ _ _ _
      | exact LeO.none _
      | refine LeO.ite ?_ ?_
      | refine LeO.bind ?_ (fun _ => ?_)
theorem halberdlaw06_TnumMeets.mono : ∀ a0 a1 a2 a3 a4 k, LeO (halberdlaw06_TnumMeets.f k a0 a1 a2 a3 a4) (halberdlaw06_TnumMeets.f (k + 1) a0 a1 a2 a3 a4) := by
  intro a0 a1 a2 a3 a4 k
  have ih0 := halberdlaw06_TnumMeets.mono_l k
  unfold halberdlaw06_TnumMeets.f
  repeat' first
      | (with_reducible exact ih0 _ _ _ _ _ _ _ _ _)
      | (with_reducible exact halberdref06_Has.mono _ _ _ _)
      | (with_reducible exact halberdref06_Meet.mono _ _ _ _ _)
      | (with_reducible exact LeO.refl _)
      | (with_reducible exact LeO.none _)
      | (with_reducible refine LeO.ite ?_ ?_)
      | (with_reducible refine LeO.bind ?_ (fun _ => ?_))
      | exact ih0 _ _ _ _ _ _ _ _ _
      | exact halberdref06_Has.mono _ _ _ _
      | exact halberdref06_Meet.mono _ _ _ _ _
      | exact LeO.none _
      | refine LeO.ite ?_ ?_
      | refine LeO.bind ?_ (fun _ => ?_)
set_option maxHeartbeats 8000000 in
set_option maxRecDepth 100000 in
theorem halberdlaw06_TnumMeets.calls (k : Nat) (a0_0 : Int) (a0_1 : Int) (a1_0 : Int) (a1_1 : Int) (a2 : Int) (r : Bool) (w : World) (hr_ : Aside0 (r = true)) (h : halberdlaw06_TnumMeets.f k a0_0 a0_1 a1_0 a1_1 a2 = some r) :
    Calls Try.prog 4 #[.agg #[.int .u64 a0_0, .int .u64 a0_1], .agg #[.int .u64 a1_0, .int .u64 a1_1], .int .u64 a2] w fun e w' => e = .returned (.bool r) ∧ Below w.heap.size w w' := by
  have hu43 := Try.underlying43
  have HB := Aside0.mk (Below.refl w.heap.size w)
  have H : ((halberdlaw06_alive.f).bind fun t187 => (if t187 = true then ((tnum_Meet.f a0_0 a0_1 a1_0 a1_1).bind fun bt188 => ((halberdref06_Meet.f k a0_0 a0_1 a1_0 a1_1).bind fun bt192 => (if (!(bt188.1 == bt192.1) || (!(bt188.2.1 == bt192.2.1))) = true then (halberdlaw06_TnumMeets.j0 k a2 bt188.2.2 true a0_0 a0_1 a1_0 a1_1 bt188.1 bt188.2.1) else (halberdlaw06_TnumMeets.j0 k a2 bt188.2.2 (bt188.2.2 != bt192.2.2) a0_0 a0_1 a1_0 a1_1 bt188.1 bt188.2.1)))) else (some false))) = some r := h
  clear h
  replace H := Option.bind_eq_some_iff.mp H
  obtain ⟨t187, A40, H⟩ := H
  replace H : (if t187 = true then ((tnum_Meet.f a0_0 a0_1 a1_0 a1_1).bind fun bt188 => ((halberdref06_Meet.f k a0_0 a0_1 a1_0 a1_1).bind fun bt192 => (if (!(bt188.1 == bt192.1) || (!(bt188.2.1 == bt192.2.1))) = true then (halberdlaw06_TnumMeets.j0 k a2 bt188.2.2 true a0_0 a0_1 a1_0 a1_1 bt188.1 bt188.2.1) else (halberdlaw06_TnumMeets.j0 k a2 bt188.2.2 (bt188.2.2 != bt192.2.2) a0_0 a0_1 a1_0 a1_1 bt188.1 bt188.2.1)))) else (some false)) = some r := H
  have A4 := Aside0.mk A40
  clear A40
  by_cases c5 : t187 = true
  · subst c5
    have H1 : ((tnum_Meet.f a0_0 a0_1 a1_0 a1_1).bind fun bt188 => ((halberdref06_Meet.f k a0_0 a0_1 a1_0 a1_1).bind fun bt192 => (if (!(bt188.1 == bt192.1) || (!(bt188.2.1 == bt192.2.1))) = true then (halberdlaw06_TnumMeets.j0 k a2 bt188.2.2 true a0_0 a0_1 a1_0 a1_1 bt188.1 bt188.2.1) else (halberdlaw06_TnumMeets.j0 k a2 bt188.2.2 (bt188.2.2 != bt192.2.2) a0_0 a0_1 a1_0 a1_1 bt188.1 bt188.2.1)))) = some r := by rw [if_pos rfl] at H; exact H
    clear H
    have H := H1
    clear H1
    replace H := Option.bind_eq_some_iff.mp H
    obtain ⟨⟨t188, t189, t190⟩, A60, H⟩ := H
    replace H : ((halberdref06_Meet.f k a0_0 a0_1 a1_0 a1_1).bind fun bt192 => (if (!(t188 == bt192.1) || (!(t189 == bt192.2.1))) = true then (halberdlaw06_TnumMeets.j0 k a2 t190 true a0_0 a0_1 a1_0 a1_1 t188 t189) else (halberdlaw06_TnumMeets.j0 k a2 t190 (t190 != bt192.2.2) a0_0 a0_1 a1_0 a1_1 t188 t189))) = some r := H
    have A6 := Aside0.mk A60
    clear A60
    replace H := Option.bind_eq_some_iff.mp H
    obtain ⟨⟨t192, t193, t194⟩, A70, H⟩ := H
    replace H : (if (!(t188 == t192) || (!(t189 == t193))) = true then (halberdlaw06_TnumMeets.j0 k a2 t190 true a0_0 a0_1 a1_0 a1_1 t188 t189) else (halberdlaw06_TnumMeets.j0 k a2 t190 (t190 != t194) a0_0 a0_1 a1_0 a1_1 t188 t189)) = some r := H
    have A7 := Aside0.mk A70
    clear A70
    have HC8 := Aside0.mk H
    clear H
    go_enter Try.func4, Try.ntmps4
    go_upto_region 5 with (first | ((with_reducible refine gate_dst (N := 3) rfl ?_); refine box_event ?hg (N := 3) ?hd (cs := #[.int .u64 a0_0, .int .u64 a0_1]) (t := 43) ?hr ?_; (case hd => rfl); (case hg => rfl); (case hr => first | (go_simp; done) | (go_simp; rfl)); intro gb185 hg w9 hbox hb; have n0_ := Aside0.mk (below_step (by repeat (first | (with_reducible first | exact HB.out | apply below_alloc | apply pw_below_drewN | apply below_drew1) | exact HB.out)) hb); have n1_ := Aside0.mk (hbox); have n2_ := Aside0.mk ((by rw [hg]; exact (below_size (by repeat (first | (with_reducible first | exact HB.out | apply below_alloc | apply pw_below_drewN | apply below_drew1) | exact HB.out))) : w.heap.size ≤ gb185)); have n3_ := Aside0.mk ((by rw [hg]; exact (below_size (by repeat (first | (with_reducible first | exact HB.out | apply below_alloc | apply pw_below_drewN | apply below_drew1) | exact HB.out))) : w.heap.size ≤ gb185)); clear HB; have HB := n0_; have BK185 := n1_; have GW185 := n2_; have GE185 := n3_; clear n0_ n1_ n2_ n3_; clear hb hbox hg) | ((with_reducible refine gate_dst (N := 4) rfl ?_); refine box_event ?hg (N := 4) ?hd (cs := #[.int .u64 a1_0, .int .u64 a1_1]) (t := 43) ?hr ?_; (case hd => rfl); (case hg => rfl); (case hr => first | (go_simp; done) | (go_simp; rfl)); intro gb186 hg w10 hbox hb; have n0_ := Aside0.mk (blk_below (g := gb185) (o := .cells #[.int .u64 a0_0, .int .u64 a0_1] 43 (0, 0)) (by (with_reducible repeat (first | refine blk_drewN ?_ _ | refine blk_drew ?_ | refine blk_alloc ?_ _)); exact BK185.out) hb); have n1_ := Aside0.mk (below_step (by repeat (first | (with_reducible first | exact HB.out | apply below_alloc | apply pw_below_drewN | apply below_drew1 | refine below_set ?_ GE185.out) | exact HB.out)) hb); have n2_ := Aside0.mk (hbox); have n3_ := Aside0.mk ((by rw [hg]; exact (below_size (by repeat (first | (with_reducible first | exact HB.out | apply below_alloc | apply pw_below_drewN | apply below_drew1 | refine below_set ?_ GE185.out) | exact HB.out))) : w.heap.size ≤ gb186)); have n4_ := Aside0.mk ((by rw [hg]; exact (below_size (by repeat (first | (with_reducible first | exact HB.out | apply below_alloc | apply pw_below_drewN | apply below_drew1 | refine below_set ?_ GE185.out) | exact HB.out))) : w.heap.size ≤ gb186)); have n5_ := Aside0.mk ((by rw [hg]; exact Nat.ne_of_lt (blk_lt (g := gb185) (o := .cells #[.int .u64 a0_0, .int .u64 a0_1] 43 (0, 0)) (by (with_reducible repeat (first | refine blk_drewN ?_ _ | refine blk_drew ?_ | refine blk_alloc ?_ _)); exact BK185.out)) : gb185 ≠ gb186)); have n6_ := Aside0.mk ((by rw [hg]; exact Nat.ne_of_gt (blk_lt (g := gb185) (o := .cells #[.int .u64 a0_0, .int .u64 a0_1] 43 (0, 0)) (by (with_reducible repeat (first | refine blk_drewN ?_ _ | refine blk_drew ?_ | refine blk_alloc ?_ _)); exact BK185.out)) : gb186 ≠ gb185)); clear BK185; clear HB; have BK185 := n0_; have HB := n1_; have BK186 := n2_; have GW186 := n3_; have GE186 := n4_; have NB185_186 := n5_; have NB186_185 := n6_; clear n0_ n1_ n2_ n3_ n4_ n5_ n6_; clear hb hbox hg) | ((with_reducible refine gate_callee (f := 25) rfl ?_); refine goesL_ (some 12) rfl rfl Try.func25 (by kernel_rfl) rfl #[] rfl (by (try simp only [List.map_toArray, List.map_cons, List.map_nil]); first | done | rfl | (simp only [List.length_drop, List.length_take]; rfl)) ?_; (with_reducible refine (halberdlaw06_alive.calls  true _ A4.out).mono ?_); rintro e w11 ⟨rfl, hb⟩; refine ⟨_, rfl, ?_⟩; have n0_ := Aside0.mk (blk_below (g := gb185) (o := .cells #[.int .u64 a0_0, .int .u64 a0_1] 43 (0, 0)) (by (with_reducible repeat (first | refine blk_drewN ?_ _ | refine blk_drew ?_ | refine blk_alloc ?_ _)); exact BK185.out) hb); have n1_ := Aside0.mk (blk_below (g := gb186) (o := .cells #[.int .u64 a1_0, .int .u64 a1_1] 43 (0, 0)) (by (with_reducible repeat (first | refine blk_drewN ?_ _ | refine blk_drew ?_ | refine blk_alloc ?_ _)); exact BK186.out) hb); have n2_ := Aside0.mk (below_step (by repeat (first | (with_reducible first | exact HB.out | apply below_alloc | apply pw_below_drewN | apply below_drew1 | refine below_set ?_ GE185.out | refine below_set ?_ GE186.out) | exact HB.out)) hb); clear BK185; clear BK186; clear HB; have BK185 := n0_; have BK186 := n1_; have HB := n2_; clear n0_ n1_ n2_; (try clear hb); (try clear hb2); (try clear hk); (try clear hi); have hnb12 := NB185_186.out; have hnc12 := NB186_185.out; have hcz13_0 : w11.cell? ⟨gb185, 0, none⟩ = some (.int .u64 a0_0) := (blk_cell BK185.out 0).trans rfl; have hcz13_1 : w11.cell? ⟨gb185, 1, none⟩ = some (.int .u64 a0_1) := (blk_cell BK185.out 1).trans rfl; have hfz13_0 := blk_frozen BK185.out 0; have hfz13_1 := blk_frozen BK185.out 1; have hcz14_0 : w11.cell? ⟨gb186, 0, none⟩ = some (.int .u64 a1_0) := (blk_cell BK186.out 0).trans rfl; have hcz14_1 : w11.cell? ⟨gb186, 1, none⟩ = some (.int .u64 a1_1) := (blk_cell BK186.out 1).trans rfl; have hfz14_0 := blk_frozen BK186.out 0; have hfz14_1 := blk_frozen BK186.out 1) | ((with_reducible refine gate_callee (f := 26) rfl ?_); refine goesL_ (some 17) rfl rfl Try.func26 (by kernel_rfl) rfl #[.agg #[.int .u64 a0_0, .int .u64 a0_1], .agg #[.int .u64 a1_0, .int .u64 a1_1]] rfl (by (try simp only [List.map_toArray, List.map_cons, List.map_nil]); first | done | rfl | (simp only [List.length_drop, List.length_take]; rfl)) ?_; (with_reducible refine (tnum_Meet.calls a0_0 a0_1 a1_0 a1_1 t188 t189 t190 _ A6.out).mono ?_); rintro e w15 ⟨rfl, hb⟩; refine ⟨_, rfl, ?_⟩; have n0_ := Aside0.mk (blk_below (g := gb185) (o := .cells #[.int .u64 a0_0, .int .u64 a0_1] 43 (0, 0)) (by (with_reducible repeat (first | refine blk_drewN ?_ _ | refine blk_drew ?_ | refine blk_alloc ?_ _)); exact BK185.out) hb); have n1_ := Aside0.mk (blk_below (g := gb186) (o := .cells #[.int .u64 a1_0, .int .u64 a1_1] 43 (0, 0)) (by (with_reducible repeat (first | refine blk_drewN ?_ _ | refine blk_drew ?_ | refine blk_alloc ?_ _)); exact BK186.out) hb); have n2_ := Aside0.mk (below_step (by repeat (first | (with_reducible first | exact HB.out | apply below_alloc | apply pw_below_drewN | apply below_drew1 | refine below_set ?_ GE185.out | refine below_set ?_ GE186.out) | exact HB.out)) hb); clear BK185; clear BK186; clear HB; have BK185 := n0_; have BK186 := n1_; have HB := n2_; clear n0_ n1_ n2_; (try clear hb); (try clear hb2); (try clear hk); (try clear hi)) | ((with_reducible refine gate_dst (N := 7) rfl ?_); refine box_event ?hg (N := 7) ?hd (cs := #[.int .u64 0, .int .u64 0]) (t := 43) ?hr ?_; (case hd => rfl); (case hg => rfl); (case hr => first | (go_simp; done) | (go_simp; rfl)); intro gb191 hg w16 hbox hb; have n0_ := Aside0.mk (blk_below (g := gb185) (o := .cells #[.int .u64 a0_0, .int .u64 a0_1] 43 (0, 0)) (by (with_reducible repeat (first | refine blk_drewN ?_ _ | refine blk_drew ?_ | refine blk_alloc ?_ _)); exact BK185.out) hb); have n1_ := Aside0.mk (blk_below (g := gb186) (o := .cells #[.int .u64 a1_0, .int .u64 a1_1] 43 (0, 0)) (by (with_reducible repeat (first | refine blk_drewN ?_ _ | refine blk_drew ?_ | refine blk_alloc ?_ _)); exact BK186.out) hb); have n2_ := Aside0.mk (below_step (by repeat (first | (with_reducible first | exact HB.out | apply below_alloc | apply pw_below_drewN | apply below_drew1 | refine below_set ?_ GE185.out | refine below_set ?_ GE186.out) | exact HB.out)) hb); have n3_ := Aside0.mk (hbox); have n4_ := Aside0.mk ((by rw [hg]; exact (below_size (by repeat (first | (with_reducible first | exact HB.out | apply below_alloc | apply pw_below_drewN | apply below_drew1 | refine below_set ?_ GE185.out | refine below_set ?_ GE186.out) | exact HB.out))) : w.heap.size ≤ gb191)); have n5_ := Aside0.mk ((by rw [hg]; exact (below_size (by repeat (first | (with_reducible first | exact HB.out | apply below_alloc | apply pw_below_drewN | apply below_drew1 | refine below_set ?_ GE185.out | refine below_set ?_ GE186.out) | exact HB.out))) : w.heap.size ≤ gb191)); have n6_ := Aside0.mk ((by rw [hg]; exact Nat.ne_of_lt (blk_lt (g := gb185) (o := .cells #[.int .u64 a0_0, .int .u64 a0_1] 43 (0, 0)) (by (with_reducible repeat (first | refine blk_drewN ?_ _ | refine blk_drew ?_ | refine blk_alloc ?_ _)); exact BK185.out)) : gb185 ≠ gb191)); have n7_ := Aside0.mk ((by rw [hg]; exact Nat.ne_of_gt (blk_lt (g := gb185) (o := .cells #[.int .u64 a0_0, .int .u64 a0_1] 43 (0, 0)) (by (with_reducible repeat (first | refine blk_drewN ?_ _ | refine blk_drew ?_ | refine blk_alloc ?_ _)); exact BK185.out)) : gb191 ≠ gb185)); have n8_ := Aside0.mk ((by rw [hg]; exact Nat.ne_of_lt (blk_lt (g := gb186) (o := .cells #[.int .u64 a1_0, .int .u64 a1_1] 43 (0, 0)) (by (with_reducible repeat (first | refine blk_drewN ?_ _ | refine blk_drew ?_ | refine blk_alloc ?_ _)); exact BK186.out)) : gb186 ≠ gb191)); have n9_ := Aside0.mk ((by rw [hg]; exact Nat.ne_of_gt (blk_lt (g := gb186) (o := .cells #[.int .u64 a1_0, .int .u64 a1_1] 43 (0, 0)) (by (with_reducible repeat (first | refine blk_drewN ?_ _ | refine blk_drew ?_ | refine blk_alloc ?_ _)); exact BK186.out)) : gb191 ≠ gb186)); clear BK185; clear BK186; clear HB; have BK185 := n0_; have BK186 := n1_; have HB := n2_; have BK191 := n3_; have GW191 := n4_; have GE191 := n5_; have NB185_191 := n6_; have NB191_185 := n7_; have NB186_191 := n8_; have NB191_186 := n9_; clear n0_ n1_ n2_ n3_ n4_ n5_ n6_ n7_ n8_ n9_; clear hb hbox hg; have hnb17 := NB191_185.out; have hnc17 := NB185_191.out; have hnb18 := NB191_186.out; have hnc18 := NB186_191.out; have hcz19_0 : w16.cell? ⟨gb191, 0, none⟩ = some (.int .u64 0) := (blk_cell BK191.out 0).trans rfl; have hcz19_1 : w16.cell? ⟨gb191, 1, none⟩ = some (.int .u64 0) := (blk_cell BK191.out 1).trans rfl; have hfz19_0 := blk_frozen BK191.out 0; have hfz19_1 := blk_frozen BK191.out 1; have hcz20_0 : w16.cell? ⟨gb185, 0, none⟩ = some (.int .u64 a0_0) := (blk_cell BK185.out 0).trans rfl; have hcz20_1 : w16.cell? ⟨gb185, 1, none⟩ = some (.int .u64 a0_1) := (blk_cell BK185.out 1).trans rfl; have hfz20_0 := blk_frozen BK185.out 0; have hfz20_1 := blk_frozen BK185.out 1; have hcz21_0 : w16.cell? ⟨gb186, 0, none⟩ = some (.int .u64 a1_0) := (blk_cell BK186.out 0).trans rfl; have hcz21_1 : w16.cell? ⟨gb186, 1, none⟩ = some (.int .u64 a1_1) := (blk_cell BK186.out 1).trans rfl; have hfz21_0 := blk_frozen BK186.out 0; have hfz21_1 := blk_frozen BK186.out 1) | ((with_reducible refine gate_callee (f := 27) rfl ?_); refine goesL_ (some 23) rfl rfl Try.func27 (by kernel_rfl) rfl #[.agg #[.int .u64 a0_0, .int .u64 a0_1], .agg #[.int .u64 a1_0, .int .u64 a1_1]] rfl (by (try simp only [List.map_toArray, List.map_cons, List.map_nil]); first | done | rfl | (simp only [List.length_drop, List.length_take]; rfl)) ?_; (with_reducible refine (halberdref06_Meet.calls k a0_0 a0_1 a1_0 a1_1 t192 t193 t194 _ A7.out).mono ?_); rintro e w22 ⟨rfl, hb⟩; refine ⟨_, rfl, ?_⟩; have n0_ := Aside0.mk (blk_below (g := gb185) (o := .cells #[.int .u64 a0_0, .int .u64 a0_1] 43 (0, 0)) (by (with_reducible repeat (first | refine blk_drewN ?_ _ | refine blk_drew ?_ | refine blk_alloc ?_ _)); refine blk_far ?_ NB185_191.out _; (with_reducible repeat (first | refine blk_drewN ?_ _ | refine blk_drew ?_ | refine blk_alloc ?_ _)); refine blk_far ?_ NB185_191.out _; (with_reducible repeat (first | refine blk_drewN ?_ _ | refine blk_drew ?_ | refine blk_alloc ?_ _)); exact BK185.out) hb); have n1_ := Aside0.mk (blk_below (g := gb186) (o := .cells #[.int .u64 a1_0, .int .u64 a1_1] 43 (0, 0)) (by (with_reducible repeat (first | refine blk_drewN ?_ _ | refine blk_drew ?_ | refine blk_alloc ?_ _)); refine blk_far ?_ NB186_191.out _; (with_reducible repeat (first | refine blk_drewN ?_ _ | refine blk_drew ?_ | refine blk_alloc ?_ _)); refine blk_far ?_ NB186_191.out _; (with_reducible repeat (first | refine blk_drewN ?_ _ | refine blk_drew ?_ | refine blk_alloc ?_ _)); exact BK186.out) hb); have n2_ := Aside0.mk (blk_below (g := gb191) (o := .cells #[.int .u64 t188, .int .u64 t189] 43 (0, 0)) (by (with_reducible repeat (first | refine blk_drewN ?_ _ | refine blk_drew ?_ | refine blk_alloc ?_ _)); refine blk_put (cs := #[.int .u64 t188, .int .u64 0]) ?_ 1 _ rfl; (with_reducible repeat (first | refine blk_drewN ?_ _ | refine blk_drew ?_ | refine blk_alloc ?_ _)); refine blk_put (cs := #[.int .u64 0, .int .u64 0]) ?_ 0 _ rfl; (with_reducible repeat (first | refine blk_drewN ?_ _ | refine blk_drew ?_ | refine blk_alloc ?_ _)); exact BK191.out) hb); have n3_ := Aside0.mk (below_step (by repeat (first | (with_reducible first | exact HB.out | apply below_alloc | apply pw_below_drewN | apply below_drew1 | refine below_set ?_ GE185.out | refine below_set ?_ GE186.out | refine below_set ?_ GE191.out) | exact HB.out)) hb); clear BK185; clear BK186; clear BK191; clear HB; have BK185 := n0_; have BK186 := n1_; have BK191 := n2_; have HB := n3_; clear n0_ n1_ n2_ n3_; (try clear hb); (try clear hb2); (try clear hk); (try clear hi)) | ((with_reducible refine gate_dst (N := 9) rfl ?_); refine box_event ?hg (N := 9) ?hd (cs := #[.int .u64 0, .int .u64 0]) (t := 43) ?hr ?_; (case hd => rfl); (case hg => rfl); (case hr => first | (go_simp; done) | (go_simp; rfl)); intro gb195 hg w23 hbox hb; have n0_ := Aside0.mk (blk_below (g := gb185) (o := .cells #[.int .u64 a0_0, .int .u64 a0_1] 43 (0, 0)) (by (with_reducible repeat (first | refine blk_drewN ?_ _ | refine blk_drew ?_ | refine blk_alloc ?_ _)); exact BK185.out) hb); have n1_ := Aside0.mk (blk_below (g := gb186) (o := .cells #[.int .u64 a1_0, .int .u64 a1_1] 43 (0, 0)) (by (with_reducible repeat (first | refine blk_drewN ?_ _ | refine blk_drew ?_ | refine blk_alloc ?_ _)); exact BK186.out) hb); have n2_ := Aside0.mk (blk_below (g := gb191) (o := .cells #[.int .u64 t188, .int .u64 t189] 43 (0, 0)) (by (with_reducible repeat (first | refine blk_drewN ?_ _ | refine blk_drew ?_ | refine blk_alloc ?_ _)); exact BK191.out) hb); have n3_ := Aside0.mk (below_step (by repeat (first | (with_reducible first | exact HB.out | apply below_alloc | apply pw_below_drewN | apply below_drew1 | refine below_set ?_ GE185.out | refine below_set ?_ GE186.out | refine below_set ?_ GE191.out) | exact HB.out)) hb); have n4_ := Aside0.mk (hbox); have n5_ := Aside0.mk ((by rw [hg]; exact (below_size (by repeat (first | (with_reducible first | exact HB.out | apply below_alloc | apply pw_below_drewN | apply below_drew1 | refine below_set ?_ GE185.out | refine below_set ?_ GE186.out | refine below_set ?_ GE191.out) | exact HB.out))) : w.heap.size ≤ gb195)); have n6_ := Aside0.mk ((by rw [hg]; exact (below_size (by repeat (first | (with_reducible first | exact HB.out | apply below_alloc | apply pw_below_drewN | apply below_drew1 | refine below_set ?_ GE185.out | refine below_set ?_ GE186.out | refine below_set ?_ GE191.out) | exact HB.out))) : w.heap.size ≤ gb195)); have n7_ := Aside0.mk ((by rw [hg]; exact Nat.ne_of_lt (blk_lt (g := gb185) (o := .cells #[.int .u64 a0_0, .int .u64 a0_1] 43 (0, 0)) (by (with_reducible repeat (first | refine blk_drewN ?_ _ | refine blk_drew ?_ | refine blk_alloc ?_ _)); exact BK185.out)) : gb185 ≠ gb195)); have n8_ := Aside0.mk ((by rw [hg]; exact Nat.ne_of_gt (blk_lt (g := gb185) (o := .cells #[.int .u64 a0_0, .int .u64 a0_1] 43 (0, 0)) (by (with_reducible repeat (first | refine blk_drewN ?_ _ | refine blk_drew ?_ | refine blk_alloc ?_ _)); exact BK185.out)) : gb195 ≠ gb185)); have n9_ := Aside0.mk ((by rw [hg]; exact Nat.ne_of_lt (blk_lt (g := gb186) (o := .cells #[.int .u64 a1_0, .int .u64 a1_1] 43 (0, 0)) (by (with_reducible repeat (first | refine blk_drewN ?_ _ | refine blk_drew ?_ | refine blk_alloc ?_ _)); exact BK186.out)) : gb186 ≠ gb195)); have n10_ := Aside0.mk ((by rw [hg]; exact Nat.ne_of_gt (blk_lt (g := gb186) (o := .cells #[.int .u64 a1_0, .int .u64 a1_1] 43 (0, 0)) (by (with_reducible repeat (first | refine blk_drewN ?_ _ | refine blk_drew ?_ | refine blk_alloc ?_ _)); exact BK186.out)) : gb195 ≠ gb186)); have n11_ := Aside0.mk ((by rw [hg]; exact Nat.ne_of_lt (blk_lt (g := gb191) (o := .cells #[.int .u64 t188, .int .u64 t189] 43 (0, 0)) (by (with_reducible repeat (first | refine blk_drewN ?_ _ | refine blk_drew ?_ | refine blk_alloc ?_ _)); exact BK191.out)) : gb191 ≠ gb195)); have n12_ := Aside0.mk ((by rw [hg]; exact Nat.ne_of_gt (blk_lt (g := gb191) (o := .cells #[.int .u64 t188, .int .u64 t189] 43 (0, 0)) (by (with_reducible repeat (first | refine blk_drewN ?_ _ | refine blk_drew ?_ | refine blk_alloc ?_ _)); exact BK191.out)) : gb195 ≠ gb191)); clear BK185; clear BK186; clear BK191; clear HB; have BK185 := n0_; have BK186 := n1_; have BK191 := n2_; have HB := n3_; have BK195 := n4_; have GW195 := n5_; have GE195 := n6_; have NB185_195 := n7_; have NB195_185 := n8_; have NB186_195 := n9_; have NB195_186 := n10_; have NB191_195 := n11_; have NB195_191 := n12_; clear n0_ n1_ n2_ n3_ n4_ n5_ n6_ n7_ n8_ n9_ n10_ n11_ n12_; clear hb hbox hg; have hnb24 := NB195_185.out; have hnc24 := NB185_195.out; have hnb25 := NB195_186.out; have hnc25 := NB186_195.out; have hnb26 := NB195_191.out; have hnc26 := NB191_195.out; have hcz27_0 : w23.cell? ⟨gb195, 0, none⟩ = some (.int .u64 0) := (blk_cell BK195.out 0).trans rfl; have hcz27_1 : w23.cell? ⟨gb195, 1, none⟩ = some (.int .u64 0) := (blk_cell BK195.out 1).trans rfl; have hfz27_0 := blk_frozen BK195.out 0; have hfz27_1 := blk_frozen BK195.out 1))
    (try simp only [Act.put, List.setIfInBounds_toArray, List.set_cons_zero, List.set_cons_succ])
    go_cut [33] (fun v33 wc => ∃ (kq : Nat) (x33_7 : Bool), v33 = .bool x33_7 ∧ Aside0 (halberdlaw06_TnumMeets.j0 kq a2 t190 x33_7 a0_0 a0_1 a1_0 a1_1 t188 t189 = some r) ∧ Aside0 (kq ≤ k) ∧ Aside0 (wc.heap[gb185]? = some (.cells #[.int .u64 a0_0, .int .u64 a0_1] 43 (0, 0))) ∧ Aside0 (wc.heap[gb186]? = some (.cells #[.int .u64 a1_0, .int .u64 a1_1] 43 (0, 0))) ∧ Aside0 (wc.heap[gb191]? = some (.cells #[.int .u64 t188, .int .u64 t189] 43 (0, 0))) ∧ Aside0 (wc.heap[gb195]? = some (.cells #[.int .u64 t192, .int .u64 t193] 43 (0, 0))) ∧ Aside0 (Below w.heap.size w wc))
    case first =>
      have H := HC8.out
      clear HC8
      by_cases c28 : (!(t188 == t192) || (!(t189 == t193))) = true
      · rw [if_pos c28] at H
        have c28b0 : (!(t188 == t192) || (!(t189 == t193))) = true := c28
        clear c28
        (first | rw [c28b0] | (simp only [i64_w, i32_w]; rw [c28b0]) | skip)
        have H' := Aside0.mk H
        clear H
        have hnb29 := NB191_185.out
        have hnc29 := NB185_191.out
        have hnb30 := NB191_186.out
        have hnc30 := NB186_191.out
        have hnb31 := NB191_195.out
        have hnc31 := NB195_191.out
        have hcz32_0 : w23.cell? ⟨gb191, 0, none⟩ = some (.int .u64 t188) := (blk_cell BK191.out 0).trans rfl
        have hcz32_1 : w23.cell? ⟨gb191, 1, none⟩ = some (.int .u64 t189) := (blk_cell BK191.out 1).trans rfl
        have hfz32_0 := blk_frozen BK191.out 0
        have hfz32_1 := blk_frozen BK191.out 1
        have hnb33 := NB195_185.out
        have hnc33 := NB185_195.out
        have hnb34 := NB195_186.out
        have hnc34 := NB186_195.out
        have hcz35_0 : w23.cell? ⟨gb195, 0, none⟩ = some (.int .u64 0) := (blk_cell BK195.out 0).trans rfl
        have hcz35_1 : w23.cell? ⟨gb195, 1, none⟩ = some (.int .u64 0) := (blk_cell BK195.out 1).trans rfl
        have hfz35_0 := blk_frozen BK195.out 0
        have hfz35_1 := blk_frozen BK195.out 1
        go_wp2
        go_meet
        case rel => exact ⟨_, (true), (by first | rfl | (simp; done) | (simp [*]; done)), H', ⟨by first | omega | exact Nat.le_refl _⟩, ⟨by (with_reducible repeat (first | refine blk_drewN ?_ _ | refine blk_drew ?_ | refine blk_alloc ?_ _)); refine blk_far ?_ NB185_195.out _; (with_reducible repeat (first | refine blk_drewN ?_ _ | refine blk_drew ?_ | refine blk_alloc ?_ _)); refine blk_far ?_ NB185_195.out _; (with_reducible repeat (first | refine blk_drewN ?_ _ | refine blk_drew ?_ | refine blk_alloc ?_ _)); exact BK185.out⟩, ⟨by (with_reducible repeat (first | refine blk_drewN ?_ _ | refine blk_drew ?_ | refine blk_alloc ?_ _)); refine blk_far ?_ NB186_195.out _; (with_reducible repeat (first | refine blk_drewN ?_ _ | refine blk_drew ?_ | refine blk_alloc ?_ _)); refine blk_far ?_ NB186_195.out _; (with_reducible repeat (first | refine blk_drewN ?_ _ | refine blk_drew ?_ | refine blk_alloc ?_ _)); exact BK186.out⟩, ⟨by (with_reducible repeat (first | refine blk_drewN ?_ _ | refine blk_drew ?_ | refine blk_alloc ?_ _)); refine blk_far ?_ NB191_195.out _; (with_reducible repeat (first | refine blk_drewN ?_ _ | refine blk_drew ?_ | refine blk_alloc ?_ _)); refine blk_far ?_ NB191_195.out _; (with_reducible repeat (first | refine blk_drewN ?_ _ | refine blk_drew ?_ | refine blk_alloc ?_ _)); exact BK191.out⟩, ⟨by (with_reducible repeat (first | refine blk_drewN ?_ _ | refine blk_drew ?_ | refine blk_alloc ?_ _)); refine blk_put (cs := #[.int .u64 t192, .int .u64 0]) ?_ 1 _ rfl; (with_reducible repeat (first | refine blk_drewN ?_ _ | refine blk_drew ?_ | refine blk_alloc ?_ _)); refine blk_put (cs := #[.int .u64 0, .int .u64 0]) ?_ 0 _ rfl; (with_reducible repeat (first | refine blk_drewN ?_ _ | refine blk_drew ?_ | refine blk_alloc ?_ _)); exact BK195.out⟩, ⟨by repeat (first | (with_reducible first | exact HB.out | apply below_alloc | apply pw_below_drewN | apply below_drew1 | refine below_set ?_ GE185.out | refine below_set ?_ GE186.out | refine below_set ?_ GE191.out | refine below_set ?_ GE195.out) | exact HB.out)⟩⟩
      · rw [if_neg c28] at H
        have c28b0 : (!(t188 == t192) || (!(t189 == t193))) = false := by simpa using c28
        clear c28
        (first | rw [c28b0] | (simp only [i64_w, i32_w]; rw [c28b0]) | skip)
        have H' := Aside0.mk H
        clear H
        have hnb36 := NB191_185.out
        have hnc36 := NB185_191.out
        have hnb37 := NB191_186.out
        have hnc37 := NB186_191.out
        have hnb38 := NB191_195.out
        have hnc38 := NB195_191.out
        have hcz39_0 : w23.cell? ⟨gb191, 0, none⟩ = some (.int .u64 t188) := (blk_cell BK191.out 0).trans rfl
        have hcz39_1 : w23.cell? ⟨gb191, 1, none⟩ = some (.int .u64 t189) := (blk_cell BK191.out 1).trans rfl
        have hfz39_0 := blk_frozen BK191.out 0
        have hfz39_1 := blk_frozen BK191.out 1
        have hnb40 := NB195_185.out
        have hnc40 := NB185_195.out
        have hnb41 := NB195_186.out
        have hnc41 := NB186_195.out
        have hcz42_0 : w23.cell? ⟨gb195, 0, none⟩ = some (.int .u64 0) := (blk_cell BK195.out 0).trans rfl
        have hcz42_1 : w23.cell? ⟨gb195, 1, none⟩ = some (.int .u64 0) := (blk_cell BK195.out 1).trans rfl
        have hfz42_0 := blk_frozen BK195.out 0
        have hfz42_1 := blk_frozen BK195.out 1
        go_wp2
        go_meet
        case rel => exact ⟨_, ((t190 != t194)), (by first | rfl | (simp; done) | (simp [*]; done)), H', ⟨by first | omega | exact Nat.le_refl _⟩, ⟨by (with_reducible repeat (first | refine blk_drewN ?_ _ | refine blk_drew ?_ | refine blk_alloc ?_ _)); refine blk_far ?_ NB185_195.out _; (with_reducible repeat (first | refine blk_drewN ?_ _ | refine blk_drew ?_ | refine blk_alloc ?_ _)); refine blk_far ?_ NB185_195.out _; (with_reducible repeat (first | refine blk_drewN ?_ _ | refine blk_drew ?_ | refine blk_alloc ?_ _)); exact BK185.out⟩, ⟨by (with_reducible repeat (first | refine blk_drewN ?_ _ | refine blk_drew ?_ | refine blk_alloc ?_ _)); refine blk_far ?_ NB186_195.out _; (with_reducible repeat (first | refine blk_drewN ?_ _ | refine blk_drew ?_ | refine blk_alloc ?_ _)); refine blk_far ?_ NB186_195.out _; (with_reducible repeat (first | refine blk_drewN ?_ _ | refine blk_drew ?_ | refine blk_alloc ?_ _)); exact BK186.out⟩, ⟨by (with_reducible repeat (first | refine blk_drewN ?_ _ | refine blk_drew ?_ | refine blk_alloc ?_ _)); refine blk_far ?_ NB191_195.out _; (with_reducible repeat (first | refine blk_drewN ?_ _ | refine blk_drew ?_ | refine blk_alloc ?_ _)); refine blk_far ?_ NB191_195.out _; (with_reducible repeat (first | refine blk_drewN ?_ _ | refine blk_drew ?_ | refine blk_alloc ?_ _)); exact BK191.out⟩, ⟨by (with_reducible repeat (first | refine blk_drewN ?_ _ | refine blk_drew ?_ | refine blk_alloc ?_ _)); refine blk_put (cs := #[.int .u64 t192, .int .u64 0]) ?_ 1 _ rfl; (with_reducible repeat (first | refine blk_drewN ?_ _ | refine blk_drew ?_ | refine blk_alloc ?_ _)); refine blk_put (cs := #[.int .u64 0, .int .u64 0]) ?_ 0 _ rfl; (with_reducible repeat (first | refine blk_drewN ?_ _ | refine blk_drew ?_ | refine blk_alloc ?_ _)); exact BK195.out⟩, ⟨by repeat (first | (with_reducible first | exact HB.out | apply below_alloc | apply pw_below_drewN | apply below_drew1 | refine below_set ?_ GE185.out | refine below_set ?_ GE186.out | refine below_set ?_ GE191.out | refine below_set ?_ GE195.out) | exact HB.out)⟩⟩
    case rest =>
      clear HC8
      try clear c1
      try clear c2
      try clear p2
      try clear c3
      try clear c4
      try clear c5
      try clear c12
      try clear c17
      try clear c18
      try clear c24
      try clear c25
      try clear c26
      try clear c27
      try clear c28
      try clear c28b0
      try clear c29
      try clear c30
      try clear c31
      try clear c33
      try clear c34
      try clear c36
      try clear c37
      try clear c38
      try clear c40
      try clear c41
      try clear hcz13_0
      try clear hcz13_1
      try clear hcz14_0
      try clear hcz14_1
      try clear hcz19_0
      try clear hcz19_1
      try clear hcz20_0
      try clear hcz20_1
      try clear hcz21_0
      try clear hcz21_1
      try clear hcz27_0
      try clear hcz27_1
      try clear hcz32_0
      try clear hcz32_1
      try clear hcz35_0
      try clear hcz35_1
      try clear hcz39_0
      try clear hcz39_1
      try clear hcz42_0
      try clear hcz42_1
      try clear hfz13_0
      try clear hfz13_1
      try clear hfz14_0
      try clear hfz14_1
      try clear hfz19_0
      try clear hfz19_1
      try clear hfz20_0
      try clear hfz20_1
      try clear hfz21_0
      try clear hfz21_1
      try clear hfz27_0
      try clear hfz27_1
      try clear hfz32_0
      try clear hfz32_1
      try clear hfz35_0
      try clear hfz35_1
      try clear hfz39_0
      try clear hfz39_1
      try clear hfz42_0
      try clear hfz42_1
      obtain ⟨kq, x33_7, rfl, HA, HJ7, BK185, BK186, BK191, BK195, HB⟩ := hcut
      cases kq with
      | zero => exact absurd HA.out (by simp [halberdlaw06_TnumMeets.j0])
      | succ kj7 =>
        have H := HA.out
        clear HA
        simp only [halberdlaw06_TnumMeets.j0] at H
        by_cases c43 : x33_7 = true
        · subst c43
          have H1 : (some false) = some r := by rw [if_pos rfl] at H; exact H
          clear H
          have H := H1
          clear H1
          exact absurd (Option.some.inj H) (by rw [hr_.out]; decide)
        · replace c43 := Bool.eq_false_iff.mpr c43
          subst c43
          have H1 : ((halberdref06_Has.f kj7 a0_0 a0_1 a2).bind fun t196 => (if t196 = true then ((halberdref06_Has.f kj7 a1_0 a1_1 a2).bind fun t197 => (if t190 = true then ((tnum_Has.f t188 t189 a2).bind fun t198 => (some (t198 == t197))) else (if t197 = true then (some false) else (some true)))) else (if t190 = true then ((tnum_Has.f t188 t189 a2).bind fun t199 => (some (t199 == false))) else (some true)))) = some r := by rw [if_neg (show ¬ (false = true) by decide)] at H; exact H
          clear H
          have H := H1
          clear H1
          replace H := Option.bind_eq_some_iff.mp H
          obtain ⟨t196, A440, H⟩ := H
          replace H : (if t196 = true then ((halberdref06_Has.f kj7 a1_0 a1_1 a2).bind fun t197 => (if t190 = true then ((tnum_Has.f t188 t189 a2).bind fun t198 => (some (t198 == t197))) else (if t197 = true then (some false) else (some true)))) else (if t190 = true then ((tnum_Has.f t188 t189 a2).bind fun t199 => (some (t199 == false))) else (some true))) = some r := H
          have A44 := Aside0.mk A440
          clear A440
          by_cases c45 : t196 = true
          · subst c45
            have H1 : ((halberdref06_Has.f kj7 a1_0 a1_1 a2).bind fun t197 => (if t190 = true then ((tnum_Has.f t188 t189 a2).bind fun t198 => (some (t198 == t197))) else (if t197 = true then (some false) else (some true)))) = some r := by rw [if_pos rfl] at H; exact H
            clear H
            have H := H1
            clear H1
            replace H := Option.bind_eq_some_iff.mp H
            obtain ⟨t197, A460, H⟩ := H
            replace H : (if t190 = true then ((tnum_Has.f t188 t189 a2).bind fun t198 => (some (t198 == t197))) else (if t197 = true then (some false) else (some true))) = some r := H
            have A46 := Aside0.mk A460
            clear A460
            by_cases c47 : t190 = true
            · subst c47
              have H1 : ((tnum_Has.f t188 t189 a2).bind fun t198 => (some (t198 == t197))) = some r := by rw [if_pos rfl] at H; exact H
              clear H
              have H := H1
              clear H1
              replace H := Option.bind_eq_some_iff.mp H
              obtain ⟨t198, A480, H⟩ := H
              replace H : (some (t198 == t197)) = some r := H
              have A48 := Aside0.mk A480
              clear A480
              obtain rfl := Option.some.inj H
              have hnb49 := NB185_186.out
              have hnc49 := NB186_185.out
              have hnb50 := NB185_191.out
              have hnc50 := NB191_185.out
              have hnb51 := NB185_195.out
              have hnc51 := NB195_185.out
              have hcz52_0 : wc.cell? ⟨gb185, 0, none⟩ = some (.int .u64 a0_0) := (blk_cell BK185.out 0).trans rfl
              have hcz52_1 : wc.cell? ⟨gb185, 1, none⟩ = some (.int .u64 a0_1) := (blk_cell BK185.out 1).trans rfl
              have hfz52_0 := blk_frozen BK185.out 0
              have hfz52_1 := blk_frozen BK185.out 1
              go_wp2_with (first | ((with_reducible refine gate_callee (f := 28) rfl ?_); refine goesL_ (some 36) rfl rfl Try.func28 (by kernel_rfl) rfl #[.agg #[.int .u64 a0_0, .int .u64 a0_1], .int .u64 a2] rfl (by (try simp only [List.map_toArray, List.map_cons, List.map_nil]); first | done | rfl | (simp only [List.length_drop, List.length_take]; rfl)) ?_; (with_reducible refine (halberdref06_Has.calls kj7 a0_0 a0_1 a2 true _ A44.out).mono ?_); rintro e w53 ⟨rfl, hb⟩; refine ⟨_, rfl, ?_⟩; have n0_ := Aside0.mk (blk_below (g := gb185) (o := .cells #[.int .u64 a0_0, .int .u64 a0_1] 43 (0, 0)) (by (with_reducible repeat (first | refine blk_drewN ?_ _ | refine blk_drew ?_ | refine blk_alloc ?_ _)); exact BK185.out) hb); have n1_ := Aside0.mk (blk_below (g := gb186) (o := .cells #[.int .u64 a1_0, .int .u64 a1_1] 43 (0, 0)) (by (with_reducible repeat (first | refine blk_drewN ?_ _ | refine blk_drew ?_ | refine blk_alloc ?_ _)); exact BK186.out) hb); have n2_ := Aside0.mk (blk_below (g := gb191) (o := .cells #[.int .u64 t188, .int .u64 t189] 43 (0, 0)) (by (with_reducible repeat (first | refine blk_drewN ?_ _ | refine blk_drew ?_ | refine blk_alloc ?_ _)); exact BK191.out) hb); have n3_ := Aside0.mk (blk_below (g := gb195) (o := .cells #[.int .u64 t192, .int .u64 t193] 43 (0, 0)) (by (with_reducible repeat (first | refine blk_drewN ?_ _ | refine blk_drew ?_ | refine blk_alloc ?_ _)); exact BK195.out) hb); have n4_ := Aside0.mk (below_step (by repeat (first | (with_reducible first | exact HB.out | apply below_alloc | apply pw_below_drewN | apply below_drew1 | refine below_set ?_ GE185.out | refine below_set ?_ GE186.out | refine below_set ?_ GE191.out | refine below_set ?_ GE195.out) | exact HB.out)) hb); clear BK185; clear BK186; clear BK191; clear BK195; clear HB; have BK185 := n0_; have BK186 := n1_; have BK191 := n2_; have BK195 := n3_; have HB := n4_; clear n0_ n1_ n2_ n3_ n4_; (try clear hb); (try clear hb2); (try clear hk); (try clear hi); have hnb54 := NB186_191.out; have hnc54 := NB191_186.out; have hnb55 := NB186_195.out; have hnc55 := NB195_186.out; have hcz56_0 : w53.cell? ⟨gb186, 0, none⟩ = some (.int .u64 a1_0) := (blk_cell BK186.out 0).trans rfl; have hcz56_1 : w53.cell? ⟨gb186, 1, none⟩ = some (.int .u64 a1_1) := (blk_cell BK186.out 1).trans rfl; have hfz56_0 := blk_frozen BK186.out 0; have hfz56_1 := blk_frozen BK186.out 1) | (go_at_call 28; (with_reducible refine (halberdref06_Has.calls kj7 a1_0 a1_1 a2 t197 _ A46.out).mono ?_); rintro e w57 ⟨rfl, hb⟩; have n0_ := Aside0.mk (blk_below (g := gb185) (o := .cells #[.int .u64 a0_0, .int .u64 a0_1] 43 (0, 0)) (by (with_reducible repeat (first | refine blk_drewN ?_ _ | refine blk_drew ?_ | refine blk_alloc ?_ _)); exact BK185.out) hb); have n1_ := Aside0.mk (blk_below (g := gb186) (o := .cells #[.int .u64 a1_0, .int .u64 a1_1] 43 (0, 0)) (by (with_reducible repeat (first | refine blk_drewN ?_ _ | refine blk_drew ?_ | refine blk_alloc ?_ _)); exact BK186.out) hb); have n2_ := Aside0.mk (blk_below (g := gb191) (o := .cells #[.int .u64 t188, .int .u64 t189] 43 (0, 0)) (by (with_reducible repeat (first | refine blk_drewN ?_ _ | refine blk_drew ?_ | refine blk_alloc ?_ _)); exact BK191.out) hb); have n3_ := Aside0.mk (blk_below (g := gb195) (o := .cells #[.int .u64 t192, .int .u64 t193] 43 (0, 0)) (by (with_reducible repeat (first | refine blk_drewN ?_ _ | refine blk_drew ?_ | refine blk_alloc ?_ _)); exact BK195.out) hb); have n4_ := Aside0.mk (below_step (by repeat (first | (with_reducible first | exact HB.out | apply below_alloc | apply pw_below_drewN | apply below_drew1 | refine below_set ?_ GE185.out | refine below_set ?_ GE186.out | refine below_set ?_ GE191.out | refine below_set ?_ GE195.out) | exact HB.out)) hb); clear BK185; clear BK186; clear BK191; clear BK195; clear HB; have BK185 := n0_; have BK186 := n1_; have BK191 := n2_; have BK195 := n3_; have HB := n4_; clear n0_ n1_ n2_ n3_ n4_; (try clear hb); (try clear hb2); (try clear hk); (try clear hi); have hnb58 := NB191_195.out; have hnc58 := NB195_191.out; have hcz59_0 : w57.cell? ⟨gb191, 0, none⟩ = some (.int .u64 t188) := (blk_cell BK191.out 0).trans rfl; have hcz59_1 : w57.cell? ⟨gb191, 1, none⟩ = some (.int .u64 t189) := (blk_cell BK191.out 1).trans rfl; have hfz59_0 := blk_frozen BK191.out 0; have hfz59_1 := blk_frozen BK191.out 1) | (go_at_call 29; (with_reducible refine (tnum_Has.calls t188 t189 a2 t198 _ A48.out).mono ?_); rintro e w60 ⟨rfl, hb⟩; have n0_ := Aside0.mk (blk_below (g := gb185) (o := .cells #[.int .u64 a0_0, .int .u64 a0_1] 43 (0, 0)) (by (with_reducible repeat (first | refine blk_drewN ?_ _ | refine blk_drew ?_ | refine blk_alloc ?_ _)); exact BK185.out) hb); have n1_ := Aside0.mk (blk_below (g := gb186) (o := .cells #[.int .u64 a1_0, .int .u64 a1_1] 43 (0, 0)) (by (with_reducible repeat (first | refine blk_drewN ?_ _ | refine blk_drew ?_ | refine blk_alloc ?_ _)); exact BK186.out) hb); have n2_ := Aside0.mk (blk_below (g := gb191) (o := .cells #[.int .u64 t188, .int .u64 t189] 43 (0, 0)) (by (with_reducible repeat (first | refine blk_drewN ?_ _ | refine blk_drew ?_ | refine blk_alloc ?_ _)); exact BK191.out) hb); have n3_ := Aside0.mk (blk_below (g := gb195) (o := .cells #[.int .u64 t192, .int .u64 t193] 43 (0, 0)) (by (with_reducible repeat (first | refine blk_drewN ?_ _ | refine blk_drew ?_ | refine blk_alloc ?_ _)); exact BK195.out) hb); have n4_ := Aside0.mk (below_step (by repeat (first | (with_reducible first | exact HB.out | apply below_alloc | apply pw_below_drewN | apply below_drew1 | refine below_set ?_ GE185.out | refine below_set ?_ GE186.out | refine below_set ?_ GE191.out | refine below_set ?_ GE195.out) | exact HB.out)) hb); clear BK185; clear BK186; clear BK191; clear BK195; clear HB; have BK185 := n0_; have BK186 := n1_; have BK191 := n2_; have BK195 := n3_; have HB := n4_; clear n0_ n1_ n2_ n3_ n4_; (try clear hb); (try clear hb2); (try clear hk); (try clear hi)) | (go_at_call 28; (with_reducible refine (halberdref06_Has.calls kj7 a0_0 a0_1 a2 true _ A44.out).mono ?_); rintro e w53 ⟨rfl, hb⟩; have n0_ := Aside0.mk (blk_below (g := gb185) (o := .cells #[.int .u64 a0_0, .int .u64 a0_1] 43 (0, 0)) (by (with_reducible repeat (first | refine blk_drewN ?_ _ | refine blk_drew ?_ | refine blk_alloc ?_ _)); exact BK185.out) hb); have n1_ := Aside0.mk (blk_below (g := gb186) (o := .cells #[.int .u64 a1_0, .int .u64 a1_1] 43 (0, 0)) (by (with_reducible repeat (first | refine blk_drewN ?_ _ | refine blk_drew ?_ | refine blk_alloc ?_ _)); exact BK186.out) hb); have n2_ := Aside0.mk (blk_below (g := gb191) (o := .cells #[.int .u64 t188, .int .u64 t189] 43 (0, 0)) (by (with_reducible repeat (first | refine blk_drewN ?_ _ | refine blk_drew ?_ | refine blk_alloc ?_ _)); exact BK191.out) hb); have n3_ := Aside0.mk (blk_below (g := gb195) (o := .cells #[.int .u64 t192, .int .u64 t193] 43 (0, 0)) (by (with_reducible repeat (first | refine blk_drewN ?_ _ | refine blk_drew ?_ | refine blk_alloc ?_ _)); exact BK195.out) hb); have n4_ := Aside0.mk (below_step (by repeat (first | (with_reducible first | exact HB.out | apply below_alloc | apply pw_below_drewN | apply below_drew1 | refine below_set ?_ GE185.out | refine below_set ?_ GE186.out | refine below_set ?_ GE191.out | refine below_set ?_ GE195.out) | exact HB.out)) hb); clear BK185; clear BK186; clear BK191; clear BK195; clear HB; have BK185 := n0_; have BK186 := n1_; have BK191 := n2_; have BK195 := n3_; have HB := n4_; clear n0_ n1_ n2_ n3_ n4_; (try clear hb); (try clear hb2); (try clear hk); (try clear hi); have hnb54 := NB186_191.out; have hnc54 := NB191_186.out; have hnb55 := NB186_195.out; have hnc55 := NB195_186.out; have hcz56_0 : w53.cell? ⟨gb186, 0, none⟩ = some (.int .u64 a1_0) := (blk_cell BK186.out 0).trans rfl; have hcz56_1 : w53.cell? ⟨gb186, 1, none⟩ = some (.int .u64 a1_1) := (blk_cell BK186.out 1).trans rfl; have hfz56_0 := blk_frozen BK186.out 0; have hfz56_1 := blk_frozen BK186.out 1))
              go_ret
              exact ⟨by first | rfl | (simp [errW_none, errW_some] <;> rfl) | (simp [*, errW_none, errW_some] <;> rfl), by repeat (first | (with_reducible first | exact HB.out | apply below_alloc | apply pw_below_drewN | apply below_drew1 | refine below_set ?_ GE185.out | refine below_set ?_ GE186.out | refine below_set ?_ GE191.out | refine below_set ?_ GE195.out) | exact HB.out)⟩
            · replace c47 := Bool.eq_false_iff.mpr c47
              subst c47
              have H1 : (if t197 = true then (some false) else (some true)) = some r := by rw [if_neg (show ¬ (false = true) by decide)] at H; exact H
              clear H
              have H := H1
              clear H1
              by_cases c61 : t197 = true
              · subst c61
                have H1 : (some false) = some r := by rw [if_pos rfl] at H; exact H
                clear H
                have H := H1
                clear H1
                exact absurd (Option.some.inj H) (by rw [hr_.out]; decide)
              · replace c61 := Bool.eq_false_iff.mpr c61
                subst c61
                have H1 : (some true) = some r := by rw [if_neg (show ¬ (false = true) by decide)] at H; exact H
                clear H
                have H := H1
                clear H1
                obtain rfl := Option.some.inj H
                have hnb62 := NB185_186.out
                have hnc62 := NB186_185.out
                have hnb63 := NB185_191.out
                have hnc63 := NB191_185.out
                have hnb64 := NB185_195.out
                have hnc64 := NB195_185.out
                have hcz65_0 : wc.cell? ⟨gb185, 0, none⟩ = some (.int .u64 a0_0) := (blk_cell BK185.out 0).trans rfl
                have hcz65_1 : wc.cell? ⟨gb185, 1, none⟩ = some (.int .u64 a0_1) := (blk_cell BK185.out 1).trans rfl
                have hfz65_0 := blk_frozen BK185.out 0
                have hfz65_1 := blk_frozen BK185.out 1
                go_wp2_with (first | ((with_reducible refine gate_callee (f := 28) rfl ?_); refine goesL_ (some 36) rfl rfl Try.func28 (by kernel_rfl) rfl #[.agg #[.int .u64 a0_0, .int .u64 a0_1], .int .u64 a2] rfl (by (try simp only [List.map_toArray, List.map_cons, List.map_nil]); first | done | rfl | (simp only [List.length_drop, List.length_take]; rfl)) ?_; (with_reducible refine (halberdref06_Has.calls kj7 a0_0 a0_1 a2 true _ A44.out).mono ?_); rintro e w66 ⟨rfl, hb⟩; refine ⟨_, rfl, ?_⟩; have n0_ := Aside0.mk (blk_below (g := gb185) (o := .cells #[.int .u64 a0_0, .int .u64 a0_1] 43 (0, 0)) (by (with_reducible repeat (first | refine blk_drewN ?_ _ | refine blk_drew ?_ | refine blk_alloc ?_ _)); exact BK185.out) hb); have n1_ := Aside0.mk (blk_below (g := gb186) (o := .cells #[.int .u64 a1_0, .int .u64 a1_1] 43 (0, 0)) (by (with_reducible repeat (first | refine blk_drewN ?_ _ | refine blk_drew ?_ | refine blk_alloc ?_ _)); exact BK186.out) hb); have n2_ := Aside0.mk (blk_below (g := gb191) (o := .cells #[.int .u64 t188, .int .u64 t189] 43 (0, 0)) (by (with_reducible repeat (first | refine blk_drewN ?_ _ | refine blk_drew ?_ | refine blk_alloc ?_ _)); exact BK191.out) hb); have n3_ := Aside0.mk (blk_below (g := gb195) (o := .cells #[.int .u64 t192, .int .u64 t193] 43 (0, 0)) (by (with_reducible repeat (first | refine blk_drewN ?_ _ | refine blk_drew ?_ | refine blk_alloc ?_ _)); exact BK195.out) hb); have n4_ := Aside0.mk (below_step (by repeat (first | (with_reducible first | exact HB.out | apply below_alloc | apply pw_below_drewN | apply below_drew1 | refine below_set ?_ GE185.out | refine below_set ?_ GE186.out | refine below_set ?_ GE191.out | refine below_set ?_ GE195.out) | exact HB.out)) hb); clear BK185; clear BK186; clear BK191; clear BK195; clear HB; have BK185 := n0_; have BK186 := n1_; have BK191 := n2_; have BK195 := n3_; have HB := n4_; clear n0_ n1_ n2_ n3_ n4_; (try clear hb); (try clear hb2); (try clear hk); (try clear hi); have hnb67 := NB186_191.out; have hnc67 := NB191_186.out; have hnb68 := NB186_195.out; have hnc68 := NB195_186.out; have hcz69_0 : w66.cell? ⟨gb186, 0, none⟩ = some (.int .u64 a1_0) := (blk_cell BK186.out 0).trans rfl; have hcz69_1 : w66.cell? ⟨gb186, 1, none⟩ = some (.int .u64 a1_1) := (blk_cell BK186.out 1).trans rfl; have hfz69_0 := blk_frozen BK186.out 0; have hfz69_1 := blk_frozen BK186.out 1) | (go_at_call 28; (with_reducible refine (halberdref06_Has.calls kj7 a1_0 a1_1 a2 false _ A46.out).mono ?_); rintro e w70 ⟨rfl, hb⟩; have n0_ := Aside0.mk (blk_below (g := gb185) (o := .cells #[.int .u64 a0_0, .int .u64 a0_1] 43 (0, 0)) (by (with_reducible repeat (first | refine blk_drewN ?_ _ | refine blk_drew ?_ | refine blk_alloc ?_ _)); exact BK185.out) hb); have n1_ := Aside0.mk (blk_below (g := gb186) (o := .cells #[.int .u64 a1_0, .int .u64 a1_1] 43 (0, 0)) (by (with_reducible repeat (first | refine blk_drewN ?_ _ | refine blk_drew ?_ | refine blk_alloc ?_ _)); exact BK186.out) hb); have n2_ := Aside0.mk (blk_below (g := gb191) (o := .cells #[.int .u64 t188, .int .u64 t189] 43 (0, 0)) (by (with_reducible repeat (first | refine blk_drewN ?_ _ | refine blk_drew ?_ | refine blk_alloc ?_ _)); exact BK191.out) hb); have n3_ := Aside0.mk (blk_below (g := gb195) (o := .cells #[.int .u64 t192, .int .u64 t193] 43 (0, 0)) (by (with_reducible repeat (first | refine blk_drewN ?_ _ | refine blk_drew ?_ | refine blk_alloc ?_ _)); exact BK195.out) hb); have n4_ := Aside0.mk (below_step (by repeat (first | (with_reducible first | exact HB.out | apply below_alloc | apply pw_below_drewN | apply below_drew1 | refine below_set ?_ GE185.out | refine below_set ?_ GE186.out | refine below_set ?_ GE191.out | refine below_set ?_ GE195.out) | exact HB.out)) hb); clear BK185; clear BK186; clear BK191; clear BK195; clear HB; have BK185 := n0_; have BK186 := n1_; have BK191 := n2_; have BK195 := n3_; have HB := n4_; clear n0_ n1_ n2_ n3_ n4_; (try clear hb); (try clear hb2); (try clear hk); (try clear hi)) | (go_at_call 28; (with_reducible refine (halberdref06_Has.calls kj7 a0_0 a0_1 a2 true _ A44.out).mono ?_); rintro e w66 ⟨rfl, hb⟩; have n0_ := Aside0.mk (blk_below (g := gb185) (o := .cells #[.int .u64 a0_0, .int .u64 a0_1] 43 (0, 0)) (by (with_reducible repeat (first | refine blk_drewN ?_ _ | refine blk_drew ?_ | refine blk_alloc ?_ _)); exact BK185.out) hb); have n1_ := Aside0.mk (blk_below (g := gb186) (o := .cells #[.int .u64 a1_0, .int .u64 a1_1] 43 (0, 0)) (by (with_reducible repeat (first | refine blk_drewN ?_ _ | refine blk_drew ?_ | refine blk_alloc ?_ _)); exact BK186.out) hb); have n2_ := Aside0.mk (blk_below (g := gb191) (o := .cells #[.int .u64 t188, .int .u64 t189] 43 (0, 0)) (by (with_reducible repeat (first | refine blk_drewN ?_ _ | refine blk_drew ?_ | refine blk_alloc ?_ _)); exact BK191.out) hb); have n3_ := Aside0.mk (blk_below (g := gb195) (o := .cells #[.int .u64 t192, .int .u64 t193] 43 (0, 0)) (by (with_reducible repeat (first | refine blk_drewN ?_ _ | refine blk_drew ?_ | refine blk_alloc ?_ _)); exact BK195.out) hb); have n4_ := Aside0.mk (below_step (by repeat (first | (with_reducible first | exact HB.out | apply below_alloc | apply pw_below_drewN | apply below_drew1 | refine below_set ?_ GE185.out | refine below_set ?_ GE186.out | refine below_set ?_ GE191.out | refine below_set ?_ GE195.out) | exact HB.out)) hb); clear BK185; clear BK186; clear BK191; clear BK195; clear HB; have BK185 := n0_; have BK186 := n1_; have BK191 := n2_; have BK195 := n3_; have HB := n4_; clear n0_ n1_ n2_ n3_ n4_; (try clear hb); (try clear hb2); (try clear hk); (try clear hi); have hnb67 := NB186_191.out; have hnc67 := NB191_186.out; have hnb68 := NB186_195.out; have hnc68 := NB195_186.out; have hcz69_0 : w66.cell? ⟨gb186, 0, none⟩ = some (.int .u64 a1_0) := (blk_cell BK186.out 0).trans rfl; have hcz69_1 : w66.cell? ⟨gb186, 1, none⟩ = some (.int .u64 a1_1) := (blk_cell BK186.out 1).trans rfl; have hfz69_0 := blk_frozen BK186.out 0; have hfz69_1 := blk_frozen BK186.out 1))
                go_ret
                exact ⟨by first | rfl | (simp [errW_none, errW_some] <;> rfl) | (simp [*, errW_none, errW_some] <;> rfl), by repeat (first | (with_reducible first | exact HB.out | apply below_alloc | apply pw_below_drewN | apply below_drew1 | refine below_set ?_ GE185.out | refine below_set ?_ GE186.out | refine below_set ?_ GE191.out | refine below_set ?_ GE195.out) | exact HB.out)⟩
          · replace c45 := Bool.eq_false_iff.mpr c45
            subst c45
            have H1 : (if t190 = true then ((tnum_Has.f t188 t189 a2).bind fun t199 => (some (t199 == false))) else (some true)) = some r := by rw [if_neg (show ¬ (false = true) by decide)] at H; exact H
            clear H
            have H := H1
            clear H1
            by_cases c71 : t190 = true
            · subst c71
              have H1 : ((tnum_Has.f t188 t189 a2).bind fun t199 => (some (t199 == false))) = some r := by rw [if_pos rfl] at H; exact H
              clear H
              have H := H1
              clear H1
              replace H := Option.bind_eq_some_iff.mp H
              obtain ⟨t199, A720, H⟩ := H
              replace H : (some (t199 == false)) = some r := H
              have A72 := Aside0.mk A720
              clear A720
              obtain rfl := Option.some.inj H
              have hnb73 := NB185_186.out
              have hnc73 := NB186_185.out
              have hnb74 := NB185_191.out
              have hnc74 := NB191_185.out
              have hnb75 := NB185_195.out
              have hnc75 := NB195_185.out
              have hcz76_0 : wc.cell? ⟨gb185, 0, none⟩ = some (.int .u64 a0_0) := (blk_cell BK185.out 0).trans rfl
              have hcz76_1 : wc.cell? ⟨gb185, 1, none⟩ = some (.int .u64 a0_1) := (blk_cell BK185.out 1).trans rfl
              have hfz76_0 := blk_frozen BK185.out 0
              have hfz76_1 := blk_frozen BK185.out 1
              go_wp2_with (first | ((with_reducible refine gate_callee (f := 28) rfl ?_); refine goesL_ (some 36) rfl rfl Try.func28 (by kernel_rfl) rfl #[.agg #[.int .u64 a0_0, .int .u64 a0_1], .int .u64 a2] rfl (by (try simp only [List.map_toArray, List.map_cons, List.map_nil]); first | done | rfl | (simp only [List.length_drop, List.length_take]; rfl)) ?_; (with_reducible refine (halberdref06_Has.calls kj7 a0_0 a0_1 a2 false _ A44.out).mono ?_); rintro e w77 ⟨rfl, hb⟩; refine ⟨_, rfl, ?_⟩; have n0_ := Aside0.mk (blk_below (g := gb185) (o := .cells #[.int .u64 a0_0, .int .u64 a0_1] 43 (0, 0)) (by (with_reducible repeat (first | refine blk_drewN ?_ _ | refine blk_drew ?_ | refine blk_alloc ?_ _)); exact BK185.out) hb); have n1_ := Aside0.mk (blk_below (g := gb186) (o := .cells #[.int .u64 a1_0, .int .u64 a1_1] 43 (0, 0)) (by (with_reducible repeat (first | refine blk_drewN ?_ _ | refine blk_drew ?_ | refine blk_alloc ?_ _)); exact BK186.out) hb); have n2_ := Aside0.mk (blk_below (g := gb191) (o := .cells #[.int .u64 t188, .int .u64 t189] 43 (0, 0)) (by (with_reducible repeat (first | refine blk_drewN ?_ _ | refine blk_drew ?_ | refine blk_alloc ?_ _)); exact BK191.out) hb); have n3_ := Aside0.mk (blk_below (g := gb195) (o := .cells #[.int .u64 t192, .int .u64 t193] 43 (0, 0)) (by (with_reducible repeat (first | refine blk_drewN ?_ _ | refine blk_drew ?_ | refine blk_alloc ?_ _)); exact BK195.out) hb); have n4_ := Aside0.mk (below_step (by repeat (first | (with_reducible first | exact HB.out | apply below_alloc | apply pw_below_drewN | apply below_drew1 | refine below_set ?_ GE185.out | refine below_set ?_ GE186.out | refine below_set ?_ GE191.out | refine below_set ?_ GE195.out) | exact HB.out)) hb); clear BK185; clear BK186; clear BK191; clear BK195; clear HB; have BK185 := n0_; have BK186 := n1_; have BK191 := n2_; have BK195 := n3_; have HB := n4_; clear n0_ n1_ n2_ n3_ n4_; (try clear hb); (try clear hb2); (try clear hk); (try clear hi); have hnb78 := NB191_186.out; have hnc78 := NB186_191.out; have hnb79 := NB191_195.out; have hnc79 := NB195_191.out; have hcz80_0 : w77.cell? ⟨gb191, 0, none⟩ = some (.int .u64 t188) := (blk_cell BK191.out 0).trans rfl; have hcz80_1 : w77.cell? ⟨gb191, 1, none⟩ = some (.int .u64 t189) := (blk_cell BK191.out 1).trans rfl; have hfz80_0 := blk_frozen BK191.out 0; have hfz80_1 := blk_frozen BK191.out 1) | (go_at_call 29; (with_reducible refine (tnum_Has.calls t188 t189 a2 t199 _ A72.out).mono ?_); rintro e w81 ⟨rfl, hb⟩; have n0_ := Aside0.mk (blk_below (g := gb185) (o := .cells #[.int .u64 a0_0, .int .u64 a0_1] 43 (0, 0)) (by (with_reducible repeat (first | refine blk_drewN ?_ _ | refine blk_drew ?_ | refine blk_alloc ?_ _)); exact BK185.out) hb); have n1_ := Aside0.mk (blk_below (g := gb186) (o := .cells #[.int .u64 a1_0, .int .u64 a1_1] 43 (0, 0)) (by (with_reducible repeat (first | refine blk_drewN ?_ _ | refine blk_drew ?_ | refine blk_alloc ?_ _)); exact BK186.out) hb); have n2_ := Aside0.mk (blk_below (g := gb191) (o := .cells #[.int .u64 t188, .int .u64 t189] 43 (0, 0)) (by (with_reducible repeat (first | refine blk_drewN ?_ _ | refine blk_drew ?_ | refine blk_alloc ?_ _)); exact BK191.out) hb); have n3_ := Aside0.mk (blk_below (g := gb195) (o := .cells #[.int .u64 t192, .int .u64 t193] 43 (0, 0)) (by (with_reducible repeat (first | refine blk_drewN ?_ _ | refine blk_drew ?_ | refine blk_alloc ?_ _)); exact BK195.out) hb); have n4_ := Aside0.mk (below_step (by repeat (first | (with_reducible first | exact HB.out | apply below_alloc | apply pw_below_drewN | apply below_drew1 | refine below_set ?_ GE185.out | refine below_set ?_ GE186.out | refine below_set ?_ GE191.out | refine below_set ?_ GE195.out) | exact HB.out)) hb); clear BK185; clear BK186; clear BK191; clear BK195; clear HB; have BK185 := n0_; have BK186 := n1_; have BK191 := n2_; have BK195 := n3_; have HB := n4_; clear n0_ n1_ n2_ n3_ n4_; (try clear hb); (try clear hb2); (try clear hk); (try clear hi)) | (go_at_call 28; (with_reducible refine (halberdref06_Has.calls kj7 a0_0 a0_1 a2 false _ A44.out).mono ?_); rintro e w77 ⟨rfl, hb⟩; have n0_ := Aside0.mk (blk_below (g := gb185) (o := .cells #[.int .u64 a0_0, .int .u64 a0_1] 43 (0, 0)) (by (with_reducible repeat (first | refine blk_drewN ?_ _ | refine blk_drew ?_ | refine blk_alloc ?_ _)); exact BK185.out) hb); have n1_ := Aside0.mk (blk_below (g := gb186) (o := .cells #[.int .u64 a1_0, .int .u64 a1_1] 43 (0, 0)) (by (with_reducible repeat (first | refine blk_drewN ?_ _ | refine blk_drew ?_ | refine blk_alloc ?_ _)); exact BK186.out) hb); have n2_ := Aside0.mk (blk_below (g := gb191) (o := .cells #[.int .u64 t188, .int .u64 t189] 43 (0, 0)) (by (with_reducible repeat (first | refine blk_drewN ?_ _ | refine blk_drew ?_ | refine blk_alloc ?_ _)); exact BK191.out) hb); have n3_ := Aside0.mk (blk_below (g := gb195) (o := .cells #[.int .u64 t192, .int .u64 t193] 43 (0, 0)) (by (with_reducible repeat (first | refine blk_drewN ?_ _ | refine blk_drew ?_ | refine blk_alloc ?_ _)); exact BK195.out) hb); have n4_ := Aside0.mk (below_step (by repeat (first | (with_reducible first | exact HB.out | apply below_alloc | apply pw_below_drewN | apply below_drew1 | refine below_set ?_ GE185.out | refine below_set ?_ GE186.out | refine below_set ?_ GE191.out | refine below_set ?_ GE195.out) | exact HB.out)) hb); clear BK185; clear BK186; clear BK191; clear BK195; clear HB; have BK185 := n0_; have BK186 := n1_; have BK191 := n2_; have BK195 := n3_; have HB := n4_; clear n0_ n1_ n2_ n3_ n4_; (try clear hb); (try clear hb2); (try clear hk); (try clear hi); have hnb78 := NB191_186.out; have hnc78 := NB186_191.out; have hnb79 := NB191_195.out; have hnc79 := NB195_191.out; have hcz80_0 : w77.cell? ⟨gb191, 0, none⟩ = some (.int .u64 t188) := (blk_cell BK191.out 0).trans rfl; have hcz80_1 : w77.cell? ⟨gb191, 1, none⟩ = some (.int .u64 t189) := (blk_cell BK191.out 1).trans rfl; have hfz80_0 := blk_frozen BK191.out 0; have hfz80_1 := blk_frozen BK191.out 1))
              go_ret
              exact ⟨by first | rfl | (simp [errW_none, errW_some] <;> rfl) | (simp [*, errW_none, errW_some] <;> rfl), by repeat (first | (with_reducible first | exact HB.out | apply below_alloc | apply pw_below_drewN | apply below_drew1 | refine below_set ?_ GE185.out | refine below_set ?_ GE186.out | refine below_set ?_ GE191.out | refine below_set ?_ GE195.out) | exact HB.out)⟩
            · replace c71 := Bool.eq_false_iff.mpr c71
              subst c71
              have H1 : (some true) = some r := by rw [if_neg (show ¬ (false = true) by decide)] at H; exact H
              clear H
              have H := H1
              clear H1
              obtain rfl := Option.some.inj H
              have hnb82 := NB185_186.out
              have hnc82 := NB186_185.out
              have hnb83 := NB185_191.out
              have hnc83 := NB191_185.out
              have hnb84 := NB185_195.out
              have hnc84 := NB195_185.out
              have hcz85_0 : wc.cell? ⟨gb185, 0, none⟩ = some (.int .u64 a0_0) := (blk_cell BK185.out 0).trans rfl
              have hcz85_1 : wc.cell? ⟨gb185, 1, none⟩ = some (.int .u64 a0_1) := (blk_cell BK185.out 1).trans rfl
              have hfz85_0 := blk_frozen BK185.out 0
              have hfz85_1 := blk_frozen BK185.out 1
              go_wp2_with (first | ((with_reducible refine gate_callee (f := 28) rfl ?_); refine goesL_ (some 36) rfl rfl Try.func28 (by kernel_rfl) rfl #[.agg #[.int .u64 a0_0, .int .u64 a0_1], .int .u64 a2] rfl (by (try simp only [List.map_toArray, List.map_cons, List.map_nil]); first | done | rfl | (simp only [List.length_drop, List.length_take]; rfl)) ?_; (with_reducible refine (halberdref06_Has.calls kj7 a0_0 a0_1 a2 false _ A44.out).mono ?_); rintro e w86 ⟨rfl, hb⟩; refine ⟨_, rfl, ?_⟩; have n0_ := Aside0.mk (blk_below (g := gb185) (o := .cells #[.int .u64 a0_0, .int .u64 a0_1] 43 (0, 0)) (by (with_reducible repeat (first | refine blk_drewN ?_ _ | refine blk_drew ?_ | refine blk_alloc ?_ _)); exact BK185.out) hb); have n1_ := Aside0.mk (blk_below (g := gb186) (o := .cells #[.int .u64 a1_0, .int .u64 a1_1] 43 (0, 0)) (by (with_reducible repeat (first | refine blk_drewN ?_ _ | refine blk_drew ?_ | refine blk_alloc ?_ _)); exact BK186.out) hb); have n2_ := Aside0.mk (blk_below (g := gb191) (o := .cells #[.int .u64 t188, .int .u64 t189] 43 (0, 0)) (by (with_reducible repeat (first | refine blk_drewN ?_ _ | refine blk_drew ?_ | refine blk_alloc ?_ _)); exact BK191.out) hb); have n3_ := Aside0.mk (blk_below (g := gb195) (o := .cells #[.int .u64 t192, .int .u64 t193] 43 (0, 0)) (by (with_reducible repeat (first | refine blk_drewN ?_ _ | refine blk_drew ?_ | refine blk_alloc ?_ _)); exact BK195.out) hb); have n4_ := Aside0.mk (below_step (by repeat (first | (with_reducible first | exact HB.out | apply below_alloc | apply pw_below_drewN | apply below_drew1 | refine below_set ?_ GE185.out | refine below_set ?_ GE186.out | refine below_set ?_ GE191.out | refine below_set ?_ GE195.out) | exact HB.out)) hb); clear BK185; clear BK186; clear BK191; clear BK195; clear HB; have BK185 := n0_; have BK186 := n1_; have BK191 := n2_; have BK195 := n3_; have HB := n4_; clear n0_ n1_ n2_ n3_ n4_; (try clear hb); (try clear hb2); (try clear hk); (try clear hi)) | (go_at_call 28; (with_reducible refine (halberdref06_Has.calls kj7 a0_0 a0_1 a2 false _ A44.out).mono ?_); rintro e w86 ⟨rfl, hb⟩; have n0_ := Aside0.mk (blk_below (g := gb185) (o := .cells #[.int .u64 a0_0, .int .u64 a0_1] 43 (0, 0)) (by (with_reducible repeat (first | refine blk_drewN ?_ _ | refine blk_drew ?_ | refine blk_alloc ?_ _)); exact BK185.out) hb); have n1_ := Aside0.mk (blk_below (g := gb186) (o := .cells #[.int .u64 a1_0, .int .u64 a1_1] 43 (0, 0)) (by (with_reducible repeat (first | refine blk_drewN ?_ _ | refine blk_drew ?_ | refine blk_alloc ?_ _)); exact BK186.out) hb); have n2_ := Aside0.mk (blk_below (g := gb191) (o := .cells #[.int .u64 t188, .int .u64 t189] 43 (0, 0)) (by (with_reducible repeat (first | refine blk_drewN ?_ _ | refine blk_drew ?_ | refine blk_alloc ?_ _)); exact BK191.out) hb); have n3_ := Aside0.mk (blk_below (g := gb195) (o := .cells #[.int .u64 t192, .int .u64 t193] 43 (0, 0)) (by (with_reducible repeat (first | refine blk_drewN ?_ _ | refine blk_drew ?_ | refine blk_alloc ?_ _)); exact BK195.out) hb); have n4_ := Aside0.mk (below_step (by repeat (first | (with_reducible first | exact HB.out | apply below_alloc | apply pw_below_drewN | apply below_drew1 | refine below_set ?_ GE185.out | refine below_set ?_ GE186.out | refine below_set ?_ GE191.out | refine below_set ?_ GE195.out) | exact HB.out)) hb); clear BK185; clear BK186; clear BK191; clear BK195; clear HB; have BK185 := n0_; have BK186 := n1_; have BK191 := n2_; have BK195 := n3_; have HB := n4_; clear n0_ n1_ n2_ n3_ n4_; (try clear hb); (try clear hb2); (try clear hk); (try clear hi)))
              go_ret
              exact ⟨by first | rfl | (simp [errW_none, errW_some] <;> rfl) | (simp [*, errW_none, errW_some] <;> rfl), by repeat (first | (with_reducible first | exact HB.out | apply below_alloc | apply pw_below_drewN | apply below_drew1 | refine below_set ?_ GE185.out | refine below_set ?_ GE186.out | refine below_set ?_ GE191.out | refine below_set ?_ GE195.out) | exact HB.out)⟩
  · replace c5 := Bool.eq_false_iff.mpr c5
    subst c5
    have H1 : (some false) = some r := by rw [if_neg (show ¬ (false = true) by decide)] at H; exact H
    clear H
    have H := H1
    clear H1
    exact absurd (Option.some.inj H) (by rw [hr_.out]; decide)

/-- THE ONE PURE STATEMENT of halberdlaw06_TnumMeets. -/
def halberdlaw06_TnumMeets.Pure : Prop := ∀ (a0_0 : Int) (a0_1 : Int) (a1_0 : Int) (a1_1 : Int) (a2 : Int), (((Lit.int .u64 a0_0).wf = true) ∧ ((Lit.int .u64 a0_1).wf = true)) → (((Lit.int .u64 a1_0).wf = true) ∧ ((Lit.int .u64 a1_1).wf = true)) → ((Lit.int .u64 a2).wf = true) → ∃ k, halberdlaw06_TnumMeets.f k a0_0 a0_1 a1_0 a1_1 a2 = some true

end Go.Proofs.Yteckjmejngieeaa.PTnumMeets
