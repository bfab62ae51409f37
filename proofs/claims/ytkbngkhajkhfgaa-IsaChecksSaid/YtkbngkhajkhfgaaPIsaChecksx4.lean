/- Functions of the program that some laws reach, as Lean functions, and proofs that the program's calls come to what they say: written by a program, for the texts that import it; each theorem bears its own conditions. -/
import Derived.Test.YtkbngkhajkhfgaaPIsaChecksx0
import Derived.Test.YtkbngkhajkhfgaaPIsaChecksx2
import Derived.Test.YtkbngkhajkhfgaaPIsaChecksx3
namespace Go.Proofs.Ytkbngkhajkhfgaa.PIsaChecks
open Go.RowKit Go.Proofs.YtkbngkhajkhfgaaW.PrintWords Go.Proofs.YtkbngkhajkhfgaaW.PrintLast Go.Proofs.YtkbngkhajkhfgaaW.PrintMore
attribute [local go_sem] max2_int min2_int max_two min_two max_three min_three max_four min_four   -- for this text's walks alone
set_option linter.unusedVariables false
set_option linter.unusedSimpArgs false

/-! ### isa_good: function 42 -/
def isa_good.f (k : Nat) (l0 : List (S24)) (a1 : Int) (a2 : Int) : Option (Bool) := if 0 ≤ a1 then (if a1 < (l0.length : Int) then ((isa_Second.f k l0 a1).bind fun t123 => (if t123 = true then (some true) else ((isa_Right.f k ((rd_T24 l0 a1).f0) ((rd_T24 l0 a1).f1) ((rd_T24 l0 a1).f2) ((rd_T24 l0 a1).f3) ((rd_T24 l0 a1).f4)).bind fun t124 => (if t124 = true then (if ((rd_T24 l0 a1).f0) = 24 then ((isa_Second.f k l0 (wrap64 (a1 + 1))).bind fun t125 => (if t125 = true then (if ((rd_T24 l0 a1).f2) = 0 then (some true) else (if 0 ≤ (wrap64 (a1 + 1)) then (if (wrap64 (a1 + 1)) < (l0.length : Int) then ((inst_Wide.f ((rd_T24 l0 a1).f0) ((rd_T24 l0 a1).f1) ((rd_T24 l0 a1).f2) ((rd_T24 l0 a1).f3) ((rd_T24 l0 a1).f4) ((rd_T24 l0 (wrap64 (a1 + 1))).f0) ((rd_T24 l0 (wrap64 (a1 + 1))).f1) ((rd_T24 l0 (wrap64 (a1 + 1))).f2) ((rd_T24 l0 (wrap64 (a1 + 1))).f3) ((rd_T24 l0 (wrap64 (a1 + 1))).f4)).bind fun t127 => (some (decide (t127 < (IntKind.u64.wrap (mx a2 0)))))) else (none)) else (none))) else (some false))) else ((isa_IsJump.f ((rd_T24 l0 a1).f0) ((rd_T24 l0 a1).f1) ((rd_T24 l0 a1).f2) ((rd_T24 l0 a1).f3) ((rd_T24 l0 a1).f4)).bind fun t128 => (if t128 = true then (if ((rd_T24 l0 a1).f3) ≥ 0 then (if (wrap64 ((wrap64 (a1 + 1)) + (wrap64 ((rd_T24 l0 a1).f3)))) < (l0.length : Int) then ((isa_Second.f k l0 (wrap64 ((wrap64 (a1 + 1)) + (wrap64 ((rd_T24 l0 a1).f3))))).bind fun t129 => (some (!t129))) else (some false)) else (some false)) else (some true)))) else (some false))))) else (none)) else (none)
theorem isa_good.mono : ∀ a0 a1 a2 k, LeO (isa_good.f k a0 a1 a2) (isa_good.f (k + 1) a0 a1 a2) := by
  intro a0 a1 a2 k
  unfold isa_good.f
  repeat' first
      | (with_reducible exact isa_Right.mono _ _ _ _ _ _)
      | (with_reducible exact isa_Second.mono _ _ _)
      | (with_reducible exact LeO.refl _)
      | (with_reducible exact LeO.none _)
      | (with_reducible refine LeO.ite ?_ ?_)
      | (with_reducible refine LeO.bind ?_ (fun _ => ?_))
      | exact isa_Right.mono _ _ _ _ _ _
      | exact isa_Second.mono _ _ _
      | exact LeO.none _
      | refine LeO.ite ?_ ?_
      | refine LeO.bind ?_ (fun _ => ?_)
def isa_good.T7 : Bool × List (List Nat × List Nat) := (true, [([], []), ([], []), ([1], [1]), ([0, 2], [0, 2]), ([3, 3], [3]), ([4], [4]), ([5, 4], [4, 5]), ([6, 4], [4, 6]), ([7, 4, 4], [4, 7]), ([8], [8]), ([8], [8]), ([8], [8]), ([11, 8], [8, 11]), ([10, 12, 8], [8, 10, 12]), ([13, 8], [8, 13]), ([9, 14, 8, 8], [8, 9, 14]), ([8], [8]), ([16, 8], [8, 16]), ([17, 8], [8, 17]), ([15, 18, 8], [8, 15, 18]), ([8, 19, 4], [4, 8, 19]), ([4, 20], [4, 20]), ([21, 15, 0, 1, 2, 3, 4, 5, 6, 7, 8, 9, 10, 11, 12, 13, 14, 15, 16, 17, 18, 19, 20, 21], [21])])
def isa_good.B7 : List Nat := [0, 0, 2, 7, 15, 31, 63, 127, 255, 511, 511, 511, 2559, 7679, 15871, 32767, 511, 66047, 197119, 524287, 1048575, 2097151, 4194303]
theorem isa_good.tab7 : rtab .any (opsOf Try.f42 7) = isa_good.T7 := by kernel_rfl
theorem isa_good.bits7 : waitsOk isa_good.T7.2 isa_good.B7 = true := by kernel_rfl
set_option maxHeartbeats 8000000 in
set_option maxRecDepth 100000 in
theorem isa_good.calls (k : Nat) (A0 : Option Addr) (c0 : Nat) (l0 : List (S24)) (a1 : Int) (a2 : Int) (r : Bool) (w : World) (hr0 : Kd.C k24 w A0 l0.length l0) (hc0 : l0.length ≤ c0) (h : isa_good.f k l0 a1 a2 = some r) :
    Calls Try.prog 42 #[.slice A0 l0.length c0, .int .i64 a1, .int .i64 a2] w fun e w' => e = .returned (.bool r) ∧ Below w.heap.size w w' := by
  have hu24 := Try.underlying24
  have HR0 := Aside0.mk hr0
  have HC0 := Aside0.mk hc0
  clear hr0 hc0
  have HB := Aside0.mk (Below.refl w.heap.size w)
  have H : (if 0 ≤ a1 then (if a1 < (l0.length : Int) then ((isa_Second.f k l0 a1).bind fun t123 => (if t123 = true then (some true) else ((isa_Right.f k ((rd_T24 l0 a1).f0) ((rd_T24 l0 a1).f1) ((rd_T24 l0 a1).f2) ((rd_T24 l0 a1).f3) ((rd_T24 l0 a1).f4)).bind fun t124 => (if t124 = true then (if ((rd_T24 l0 a1).f0) = 24 then ((isa_Second.f k l0 (wrap64 (a1 + 1))).bind fun t125 => (if t125 = true then (if ((rd_T24 l0 a1).f2) = 0 then (some true) else (if 0 ≤ (wrap64 (a1 + 1)) then (if (wrap64 (a1 + 1)) < (l0.length : Int) then ((inst_Wide.f ((rd_T24 l0 a1).f0) ((rd_T24 l0 a1).f1) ((rd_T24 l0 a1).f2) ((rd_T24 l0 a1).f3) ((rd_T24 l0 a1).f4) ((rd_T24 l0 (wrap64 (a1 + 1))).f0) ((rd_T24 l0 (wrap64 (a1 + 1))).f1) ((rd_T24 l0 (wrap64 (a1 + 1))).f2) ((rd_T24 l0 (wrap64 (a1 + 1))).f3) ((rd_T24 l0 (wrap64 (a1 + 1))).f4)).bind fun t127 => (some (decide (t127 < (IntKind.u64.wrap (mx a2 0)))))) else (none)) else (none))) else (some false))) else ((isa_IsJump.f ((rd_T24 l0 a1).f0) ((rd_T24 l0 a1).f1) ((rd_T24 l0 a1).f2) ((rd_T24 l0 a1).f3) ((rd_T24 l0 a1).f4)).bind fun t128 => (if t128 = true then (if ((rd_T24 l0 a1).f3) ≥ 0 then (if (wrap64 ((wrap64 (a1 + 1)) + (wrap64 ((rd_T24 l0 a1).f3)))) < (l0.length : Int) then ((isa_Second.f k l0 (wrap64 ((wrap64 (a1 + 1)) + (wrap64 ((rd_T24 l0 a1).f3))))).bind fun t129 => (some (!t129))) else (some false)) else (some false)) else (some true)))) else (some false))))) else (none)) else (none)) = some r := h
  clear h
  by_cases c4 : 0 ≤ a1
  · rw [if_pos c4] at H
    have c4b0 : decide (0 ≤ a1) = true := decide_eq_true c4
    clear c4
    by_cases c5 : a1 < (l0.length : Int)
    · rw [if_pos c5] at H
      have c5b0 : decide (a1 < (l0.length : Int)) = true := decide_eq_true c5
      clear c5
      replace H := Option.bind_eq_some_iff.mp H
      obtain ⟨t123, A60, H⟩ := H
      replace H : (if t123 = true then (some true) else ((isa_Right.f k ((rd_T24 l0 a1).f0) ((rd_T24 l0 a1).f1) ((rd_T24 l0 a1).f2) ((rd_T24 l0 a1).f3) ((rd_T24 l0 a1).f4)).bind fun t124 => (if t124 = true then (if ((rd_T24 l0 a1).f0) = 24 then ((isa_Second.f k l0 (wrap64 (a1 + 1))).bind fun t125 => (if t125 = true then (if ((rd_T24 l0 a1).f2) = 0 then (some true) else (if 0 ≤ (wrap64 (a1 + 1)) then (if (wrap64 (a1 + 1)) < (l0.length : Int) then ((inst_Wide.f ((rd_T24 l0 a1).f0) ((rd_T24 l0 a1).f1) ((rd_T24 l0 a1).f2) ((rd_T24 l0 a1).f3) ((rd_T24 l0 a1).f4) ((rd_T24 l0 (wrap64 (a1 + 1))).f0) ((rd_T24 l0 (wrap64 (a1 + 1))).f1) ((rd_T24 l0 (wrap64 (a1 + 1))).f2) ((rd_T24 l0 (wrap64 (a1 + 1))).f3) ((rd_T24 l0 (wrap64 (a1 + 1))).f4)).bind fun t127 => (some (decide (t127 < (IntKind.u64.wrap (mx a2 0)))))) else (none)) else (none))) else (some false))) else ((isa_IsJump.f ((rd_T24 l0 a1).f0) ((rd_T24 l0 a1).f1) ((rd_T24 l0 a1).f2) ((rd_T24 l0 a1).f3) ((rd_T24 l0 a1).f4)).bind fun t128 => (if t128 = true then (if ((rd_T24 l0 a1).f3) ≥ 0 then (if (wrap64 ((wrap64 (a1 + 1)) + (wrap64 ((rd_T24 l0 a1).f3)))) < (l0.length : Int) then ((isa_Second.f k l0 (wrap64 ((wrap64 (a1 + 1)) + (wrap64 ((rd_T24 l0 a1).f3))))).bind fun t129 => (some (!t129))) else (some false)) else (some false)) else (some true)))) else (some false)))) = some r := H
      have A6 := Aside0.mk A60
      clear A60
      by_cases c7 : t123 = true
      · subst c7
        have H1 : (some true) = some r := by rw [if_pos rfl] at H; exact H
        clear H
        have H := H1
        clear H1
        obtain rfl := Option.some.inj H
        have p121 : 0 ≤ (a1 : Int) := of_decide_eq_true (by first | (with_reducible assumption) | assumption)
        have q121 : a1 < (l0.length : Int) := of_decide_eq_true (by first | (with_reducible assumption) | assumption)
        obtain ⟨ad121, e121, hx121_0, hx121_1, hx121_2, hx121_3, hx121_4⟩ := at_T24 HR0.out a1 p121 q121
        cases e121
        replace p121 := eq_true p121
        replace q121 := eq_true q121
        go_enter Try.func42, Try.ntmps42
        go_wp2_with (first | ((with_reducible refine gate_dst (N := 7) rfl ?_); (try (refine gate_guard (by rfl) ?_; dsimp only)); refine box_event ?hg (N := 7) ?hd (cs := #[.int .u8 0, .int .u8 0, .int .u8 0, .int .i16 0, .int .i32 0]) (t := 24) ?hr ?_; (case hd => rfl); (case hg => rfl); (case hr => first | (go_simp; done) | (go_simp; rfl)); intro gb122 hg w8 hbox hb; have n0_ := Aside0.mk (below_step (by repeat (first | (with_reducible first | exact HB.out | apply below_alloc | apply pw_below_drewN | apply below_drew1) | exact HB.out)) hb); have n1_ := Aside0.mk (hbox); have n2_ := Aside0.mk ((by rw [hg]; exact (below_size (by repeat (first | (with_reducible first | exact HB.out | apply below_alloc | apply pw_below_drewN | apply below_drew1) | exact HB.out))) : w.heap.size ≤ gb122)); have n3_ := Aside0.mk ((by rw [hg]; exact (below_size (by repeat (first | (with_reducible first | exact HB.out | apply below_alloc | apply pw_below_drewN | apply below_drew1) | exact HB.out))) : w.heap.size ≤ gb122)); clear HB; have HB := n0_; have BK122 := n1_; have GW122 := n2_; have GE122 := n3_; clear n0_ n1_ n2_ n3_; clear hb hbox hg; have hcz9_0 : w8.cell? ⟨gb122, 0, none⟩ = some (.int .u8 0) := (blk_cell BK122.out 0).trans rfl; have hcz9_1 : w8.cell? ⟨gb122, 1, none⟩ = some (.int .u8 0) := (blk_cell BK122.out 1).trans rfl; have hcz9_2 : w8.cell? ⟨gb122, 2, none⟩ = some (.int .u8 0) := (blk_cell BK122.out 2).trans rfl; have hcz9_3 : w8.cell? ⟨gb122, 3, none⟩ = some (.int .i16 0) := (blk_cell BK122.out 3).trans rfl; have hcz9_4 : w8.cell? ⟨gb122, 4, none⟩ = some (.int .i32 0) := (blk_cell BK122.out 4).trans rfl; have hfz9_0 := blk_frozen BK122.out 0; have hfz9_1 := blk_frozen BK122.out 1; have hfz9_2 := blk_frozen BK122.out 2; have hfz9_3 := blk_frozen BK122.out 3; have hfz9_4 := blk_frozen BK122.out 4) | ((with_reducible refine gate_callee (f := 17) rfl ?_); refine goesL_ (some 16) rfl rfl Try.func17 (by kernel_rfl) rfl #[.slice (some ad121) l0.length c0, .int .i64 a1] rfl (by (try simp only [List.map_toArray, List.map_cons, List.map_nil]); first | done | rfl | (simp only [List.length_drop, List.length_take]; rfl)) ?_; (with_reducible refine (isa_Second.calls k _ _ l0 a1 true _ ?side1 ?side2 A6.out).mono ?_); (case side1 => exact Kd.C_below HR0.out (by repeat (first | (with_reducible first | exact HB.out | apply below_alloc | apply pw_below_drewN | apply below_drew1 | refine below_set ?_ GE122.out) | exact HB.out))); (case side2 => exact HC0.out); rintro e w10 ⟨rfl, hb⟩; refine ⟨_, rfl, ?_⟩; have n0_ := Aside0.mk (blk_below (g := gb122) (o := .cells #[.int .u8 ((rd_T24 l0 a1).f0), .int .u8 ((rd_T24 l0 a1).f1), .int .u8 ((rd_T24 l0 a1).f2), .int .i16 ((rd_T24 l0 a1).f3), .int .i32 ((rd_T24 l0 a1).f4)] 24 (0, 0)) (by (with_reducible repeat (first | refine blk_drewN ?_ _ | refine blk_drew ?_ | refine blk_alloc ?_ _)); refine blk_put (cs := #[.int .u8 ((rd_T24 l0 a1).f0), .int .u8 ((rd_T24 l0 a1).f1), .int .u8 ((rd_T24 l0 a1).f2), .int .i16 ((rd_T24 l0 a1).f3), .int .i32 0]) ?_ 4 _ rfl; (with_reducible repeat (first | refine blk_drewN ?_ _ | refine blk_drew ?_ | refine blk_alloc ?_ _)); refine blk_put (cs := #[.int .u8 ((rd_T24 l0 a1).f0), .int .u8 ((rd_T24 l0 a1).f1), .int .u8 ((rd_T24 l0 a1).f2), .int .i16 0, .int .i32 0]) ?_ 3 _ rfl; (with_reducible repeat (first | refine blk_drewN ?_ _ | refine blk_drew ?_ | refine blk_alloc ?_ _)); refine blk_put (cs := #[.int .u8 ((rd_T24 l0 a1).f0), .int .u8 ((rd_T24 l0 a1).f1), .int .u8 0, .int .i16 0, .int .i32 0]) ?_ 2 _ rfl; (with_reducible repeat (first | refine blk_drewN ?_ _ | refine blk_drew ?_ | refine blk_alloc ?_ _)); refine blk_put (cs := #[.int .u8 ((rd_T24 l0 a1).f0), .int .u8 0, .int .u8 0, .int .i16 0, .int .i32 0]) ?_ 1 _ rfl; (with_reducible repeat (first | refine blk_drewN ?_ _ | refine blk_drew ?_ | refine blk_alloc ?_ _)); refine blk_put (cs := #[.int .u8 0, .int .u8 0, .int .u8 0, .int .i16 0, .int .i32 0]) ?_ 0 _ rfl; (with_reducible repeat (first | refine blk_drewN ?_ _ | refine blk_drew ?_ | refine blk_alloc ?_ _)); exact BK122.out) hb); have n1_ := Aside0.mk (below_step (by repeat (first | (with_reducible first | exact HB.out | apply below_alloc | apply pw_below_drewN | apply below_drew1 | refine below_set ?_ GE122.out) | exact HB.out)) hb); clear BK122; clear HB; have BK122 := n0_; have HB := n1_; clear n0_ n1_; (try clear hb); (try clear hb2); (try clear hk); (try clear hi)))
        go_ret
        exact ⟨by first | rfl | (simp [errW_none, errW_some] <;> rfl) | (simp [*, errW_none, errW_some] <;> rfl), by repeat (first | (with_reducible first | exact HB.out | apply below_alloc | apply pw_below_drewN | apply below_drew1 | refine below_set ?_ GE122.out) | exact HB.out)⟩
      · replace c7 := Bool.eq_false_iff.mpr c7
        subst c7
        have H1 : ((isa_Right.f k ((rd_T24 l0 a1).f0) ((rd_T24 l0 a1).f1) ((rd_T24 l0 a1).f2) ((rd_T24 l0 a1).f3) ((rd_T24 l0 a1).f4)).bind fun t124 => (if t124 = true then (if ((rd_T24 l0 a1).f0) = 24 then ((isa_Second.f k l0 (wrap64 (a1 + 1))).bind fun t125 => (if t125 = true then (if ((rd_T24 l0 a1).f2) = 0 then (some true) else (if 0 ≤ (wrap64 (a1 + 1)) then (if (wrap64 (a1 + 1)) < (l0.length : Int) then ((inst_Wide.f ((rd_T24 l0 a1).f0) ((rd_T24 l0 a1).f1) ((rd_T24 l0 a1).f2) ((rd_T24 l0 a1).f3) ((rd_T24 l0 a1).f4) ((rd_T24 l0 (wrap64 (a1 + 1))).f0) ((rd_T24 l0 (wrap64 (a1 + 1))).f1) ((rd_T24 l0 (wrap64 (a1 + 1))).f2) ((rd_T24 l0 (wrap64 (a1 + 1))).f3) ((rd_T24 l0 (wrap64 (a1 + 1))).f4)).bind fun t127 => (some (decide (t127 < (IntKind.u64.wrap (mx a2 0)))))) else (none)) else (none))) else (some false))) else ((isa_IsJump.f ((rd_T24 l0 a1).f0) ((rd_T24 l0 a1).f1) ((rd_T24 l0 a1).f2) ((rd_T24 l0 a1).f3) ((rd_T24 l0 a1).f4)).bind fun t128 => (if t128 = true then (if ((rd_T24 l0 a1).f3) ≥ 0 then (if (wrap64 ((wrap64 (a1 + 1)) + (wrap64 ((rd_T24 l0 a1).f3)))) < (l0.length : Int) then ((isa_Second.f k l0 (wrap64 ((wrap64 (a1 + 1)) + (wrap64 ((rd_T24 l0 a1).f3))))).bind fun t129 => (some (!t129))) else (some false)) else (some false)) else (some true)))) else (some false))) = some r := by rw [if_neg (show ¬ (false = true) by decide)] at H; exact H
        clear H
        have H := H1
        clear H1
        replace H := Option.bind_eq_some_iff.mp H
        obtain ⟨t124, A110, H⟩ := H
        replace H : (if t124 = true then (if ((rd_T24 l0 a1).f0) = 24 then ((isa_Second.f k l0 (wrap64 (a1 + 1))).bind fun t125 => (if t125 = true then (if ((rd_T24 l0 a1).f2) = 0 then (some true) else (if 0 ≤ (wrap64 (a1 + 1)) then (if (wrap64 (a1 + 1)) < (l0.length : Int) then ((inst_Wide.f ((rd_T24 l0 a1).f0) ((rd_T24 l0 a1).f1) ((rd_T24 l0 a1).f2) ((rd_T24 l0 a1).f3) ((rd_T24 l0 a1).f4) ((rd_T24 l0 (wrap64 (a1 + 1))).f0) ((rd_T24 l0 (wrap64 (a1 + 1))).f1) ((rd_T24 l0 (wrap64 (a1 + 1))).f2) ((rd_T24 l0 (wrap64 (a1 + 1))).f3) ((rd_T24 l0 (wrap64 (a1 + 1))).f4)).bind fun t127 => (some (decide (t127 < (IntKind.u64.wrap (mx a2 0)))))) else (none)) else (none))) else (some false))) else ((isa_IsJump.f ((rd_T24 l0 a1).f0) ((rd_T24 l0 a1).f1) ((rd_T24 l0 a1).f2) ((rd_T24 l0 a1).f3) ((rd_T24 l0 a1).f4)).bind fun t128 => (if t128 = true then (if ((rd_T24 l0 a1).f3) ≥ 0 then (if (wrap64 ((wrap64 (a1 + 1)) + (wrap64 ((rd_T24 l0 a1).f3)))) < (l0.length : Int) then ((isa_Second.f k l0 (wrap64 ((wrap64 (a1 + 1)) + (wrap64 ((rd_T24 l0 a1).f3))))).bind fun t129 => (some (!t129))) else (some false)) else (some false)) else (some true)))) else (some false)) = some r := H
        have A11 := Aside0.mk A110
        clear A110
        by_cases c12 : t124 = true
        · subst c12
          have H1 : (if ((rd_T24 l0 a1).f0) = 24 then ((isa_Second.f k l0 (wrap64 (a1 + 1))).bind fun t125 => (if t125 = true then (if ((rd_T24 l0 a1).f2) = 0 then (some true) else (if 0 ≤ (wrap64 (a1 + 1)) then (if (wrap64 (a1 + 1)) < (l0.length : Int) then ((inst_Wide.f ((rd_T24 l0 a1).f0) ((rd_T24 l0 a1).f1) ((rd_T24 l0 a1).f2) ((rd_T24 l0 a1).f3) ((rd_T24 l0 a1).f4) ((rd_T24 l0 (wrap64 (a1 + 1))).f0) ((rd_T24 l0 (wrap64 (a1 + 1))).f1) ((rd_T24 l0 (wrap64 (a1 + 1))).f2) ((rd_T24 l0 (wrap64 (a1 + 1))).f3) ((rd_T24 l0 (wrap64 (a1 + 1))).f4)).bind fun t127 => (some (decide (t127 < (IntKind.u64.wrap (mx a2 0)))))) else (none)) else (none))) else (some false))) else ((isa_IsJump.f ((rd_T24 l0 a1).f0) ((rd_T24 l0 a1).f1) ((rd_T24 l0 a1).f2) ((rd_T24 l0 a1).f3) ((rd_T24 l0 a1).f4)).bind fun t128 => (if t128 = true then (if ((rd_T24 l0 a1).f3) ≥ 0 then (if (wrap64 ((wrap64 (a1 + 1)) + (wrap64 ((rd_T24 l0 a1).f3)))) < (l0.length : Int) then ((isa_Second.f k l0 (wrap64 ((wrap64 (a1 + 1)) + (wrap64 ((rd_T24 l0 a1).f3))))).bind fun t129 => (some (!t129))) else (some false)) else (some false)) else (some true)))) = some r := by rw [if_pos rfl] at H; exact H
          clear H
          have H := H1
          clear H1
          by_cases c13 : ((rd_T24 l0 a1).f0) = 24
          · rw [if_pos c13] at H
            have c13b0 : (((rd_T24 l0 a1).f0) == 24) = true := beq_iff_eq.mpr c13
            have c13b1 : (((rd_T24 l0 a1).f0) != 24) = false := bne_eq_false_iff_eq.mpr c13
            clear c13
            replace H := Option.bind_eq_some_iff.mp H
            obtain ⟨t125, A140, H⟩ := H
            replace H : (if t125 = true then (if ((rd_T24 l0 a1).f2) = 0 then (some true) else (if 0 ≤ (wrap64 (a1 + 1)) then (if (wrap64 (a1 + 1)) < (l0.length : Int) then ((inst_Wide.f ((rd_T24 l0 a1).f0) ((rd_T24 l0 a1).f1) ((rd_T24 l0 a1).f2) ((rd_T24 l0 a1).f3) ((rd_T24 l0 a1).f4) ((rd_T24 l0 (wrap64 (a1 + 1))).f0) ((rd_T24 l0 (wrap64 (a1 + 1))).f1) ((rd_T24 l0 (wrap64 (a1 + 1))).f2) ((rd_T24 l0 (wrap64 (a1 + 1))).f3) ((rd_T24 l0 (wrap64 (a1 + 1))).f4)).bind fun t127 => (some (decide (t127 < (IntKind.u64.wrap (mx a2 0)))))) else (none)) else (none))) else (some false)) = some r := H
            have A14 := Aside0.mk A140
            clear A140
            by_cases c15 : t125 = true
            · subst c15
              have H1 : (if ((rd_T24 l0 a1).f2) = 0 then (some true) else (if 0 ≤ (wrap64 (a1 + 1)) then (if (wrap64 (a1 + 1)) < (l0.length : Int) then ((inst_Wide.f ((rd_T24 l0 a1).f0) ((rd_T24 l0 a1).f1) ((rd_T24 l0 a1).f2) ((rd_T24 l0 a1).f3) ((rd_T24 l0 a1).f4) ((rd_T24 l0 (wrap64 (a1 + 1))).f0) ((rd_T24 l0 (wrap64 (a1 + 1))).f1) ((rd_T24 l0 (wrap64 (a1 + 1))).f2) ((rd_T24 l0 (wrap64 (a1 + 1))).f3) ((rd_T24 l0 (wrap64 (a1 + 1))).f4)).bind fun t127 => (some (decide (t127 < (IntKind.u64.wrap (mx a2 0)))))) else (none)) else (none))) = some r := by rw [if_pos rfl] at H; exact H
              clear H
              have H := H1
              clear H1
              by_cases c16 : ((rd_T24 l0 a1).f2) = 0
              · rw [if_pos c16] at H
                have c16b0 : (((rd_T24 l0 a1).f2) == 0) = true := beq_iff_eq.mpr c16
                have c16b1 : (((rd_T24 l0 a1).f2) != 0) = false := bne_eq_false_iff_eq.mpr c16
                clear c16
                obtain rfl := Option.some.inj H
                have p121 : 0 ≤ (a1 : Int) := of_decide_eq_true (by first | (with_reducible assumption) | assumption)
                have q121 : a1 < (l0.length : Int) := of_decide_eq_true (by first | (with_reducible assumption) | assumption)
                obtain ⟨ad121, e121, hx121_0, hx121_1, hx121_2, hx121_3, hx121_4⟩ := at_T24 HR0.out a1 p121 q121
                cases e121
                replace p121 := eq_true p121
                replace q121 := eq_true q121
                go_enter Try.func42, Try.ntmps42
                try go_wp2_with (first | ((with_reducible refine gate_dst (N := 7) rfl ?_); (try (refine gate_guard (by rfl) ?_; dsimp only)); refine box_event ?hg (N := 7) ?hd (cs := #[.int .u8 0, .int .u8 0, .int .u8 0, .int .i16 0, .int .i32 0]) (t := 24) ?hr ?_; (case hd => rfl); (case hg => rfl); (case hr => first | (go_simp; done) | (go_simp; rfl)); intro gb122 hg w17 hbox hb; have n0_ := Aside0.mk (below_step (by repeat (first | (with_reducible first | exact HB.out | apply below_alloc | apply pw_below_drewN | apply below_drew1) | exact HB.out)) hb); have n1_ := Aside0.mk (hbox); have n2_ := Aside0.mk ((by rw [hg]; exact (below_size (by repeat (first | (with_reducible first | exact HB.out | apply below_alloc | apply pw_below_drewN | apply below_drew1) | exact HB.out))) : w.heap.size ≤ gb122)); have n3_ := Aside0.mk ((by rw [hg]; exact (below_size (by repeat (first | (with_reducible first | exact HB.out | apply below_alloc | apply pw_below_drewN | apply below_drew1) | exact HB.out))) : w.heap.size ≤ gb122)); clear HB; have HB := n0_; have BK122 := n1_; have GW122 := n2_; have GE122 := n3_; clear n0_ n1_ n2_ n3_; clear hb hbox hg; have hcz18_0 : w17.cell? ⟨gb122, 0, none⟩ = some (.int .u8 0) := (blk_cell BK122.out 0).trans rfl; have hcz18_1 : w17.cell? ⟨gb122, 1, none⟩ = some (.int .u8 0) := (blk_cell BK122.out 1).trans rfl; have hcz18_2 : w17.cell? ⟨gb122, 2, none⟩ = some (.int .u8 0) := (blk_cell BK122.out 2).trans rfl; have hcz18_3 : w17.cell? ⟨gb122, 3, none⟩ = some (.int .i16 0) := (blk_cell BK122.out 3).trans rfl; have hcz18_4 : w17.cell? ⟨gb122, 4, none⟩ = some (.int .i32 0) := (blk_cell BK122.out 4).trans rfl; have hfz18_0 := blk_frozen BK122.out 0; have hfz18_1 := blk_frozen BK122.out 1; have hfz18_2 := blk_frozen BK122.out 2; have hfz18_3 := blk_frozen BK122.out 3; have hfz18_4 := blk_frozen BK122.out 4) | ((with_reducible refine gate_callee (f := 17) rfl ?_); refine goesL_ (some 16) rfl rfl Try.func17 (by kernel_rfl) rfl #[.slice (some ad121) l0.length c0, .int .i64 a1] rfl (by (try simp only [List.map_toArray, List.map_cons, List.map_nil]); first | done | rfl | (simp only [List.length_drop, List.length_take]; rfl)) ?_; (with_reducible refine (isa_Second.calls k _ _ l0 a1 false _ ?side1 ?side2 A6.out).mono ?_); (case side1 => exact Kd.C_below HR0.out (by repeat (first | (with_reducible first | exact HB.out | apply below_alloc | apply pw_below_drewN | apply below_drew1 | refine below_set ?_ GE122.out) | exact HB.out))); (case side2 => exact HC0.out); rintro e w19 ⟨rfl, hb⟩; refine ⟨_, rfl, ?_⟩; have n0_ := Aside0.mk (blk_below (g := gb122) (o := .cells #[.int .u8 ((rd_T24 l0 a1).f0), .int .u8 ((rd_T24 l0 a1).f1), .int .u8 ((rd_T24 l0 a1).f2), .int .i16 ((rd_T24 l0 a1).f3), .int .i32 ((rd_T24 l0 a1).f4)] 24 (0, 0)) (by (with_reducible repeat (first | refine blk_drewN ?_ _ | refine blk_drew ?_ | refine blk_alloc ?_ _)); refine blk_put (cs := #[.int .u8 ((rd_T24 l0 a1).f0), .int .u8 ((rd_T24 l0 a1).f1), .int .u8 ((rd_T24 l0 a1).f2), .int .i16 ((rd_T24 l0 a1).f3), .int .i32 0]) ?_ 4 _ rfl; (with_reducible repeat (first | refine blk_drewN ?_ _ | refine blk_drew ?_ | refine blk_alloc ?_ _)); refine blk_put (cs := #[.int .u8 ((rd_T24 l0 a1).f0), .int .u8 ((rd_T24 l0 a1).f1), .int .u8 ((rd_T24 l0 a1).f2), .int .i16 0, .int .i32 0]) ?_ 3 _ rfl; (with_reducible repeat (first | refine blk_drewN ?_ _ | refine blk_drew ?_ | refine blk_alloc ?_ _)); refine blk_put (cs := #[.int .u8 ((rd_T24 l0 a1).f0), .int .u8 ((rd_T24 l0 a1).f1), .int .u8 0, .int .i16 0, .int .i32 0]) ?_ 2 _ rfl; (with_reducible repeat (first | refine blk_drewN ?_ _ | refine blk_drew ?_ | refine blk_alloc ?_ _)); refine blk_put (cs := #[.int .u8 ((rd_T24 l0 a1).f0), .int .u8 0, .int .u8 0, .int .i16 0, .int .i32 0]) ?_ 1 _ rfl; (with_reducible repeat (first | refine blk_drewN ?_ _ | refine blk_drew ?_ | refine blk_alloc ?_ _)); refine blk_put (cs := #[.int .u8 0, .int .u8 0, .int .u8 0, .int .i16 0, .int .i32 0]) ?_ 0 _ rfl; (with_reducible repeat (first | refine blk_drewN ?_ _ | refine blk_drew ?_ | refine blk_alloc ?_ _)); exact BK122.out) hb); have n1_ := Aside0.mk (below_step (by repeat (first | (with_reducible first | exact HB.out | apply below_alloc | apply pw_below_drewN | apply below_drew1 | refine below_set ?_ GE122.out) | exact HB.out)) hb); clear BK122; clear HB; have BK122 := n0_; have HB := n1_; clear n0_ n1_; (try clear hb); (try clear hb2); (try clear hk); (try clear hi); have hcz20_0 : w19.cell? ⟨gb122, 0, none⟩ = some (.int .u8 ((rd_T24 l0 a1).f0)) := (blk_cell BK122.out 0).trans rfl; have hcz20_1 : w19.cell? ⟨gb122, 1, none⟩ = some (.int .u8 ((rd_T24 l0 a1).f1)) := (blk_cell BK122.out 1).trans rfl; have hcz20_2 : w19.cell? ⟨gb122, 2, none⟩ = some (.int .u8 ((rd_T24 l0 a1).f2)) := (blk_cell BK122.out 2).trans rfl; have hcz20_3 : w19.cell? ⟨gb122, 3, none⟩ = some (.int .i16 ((rd_T24 l0 a1).f3)) := (blk_cell BK122.out 3).trans rfl; have hcz20_4 : w19.cell? ⟨gb122, 4, none⟩ = some (.int .i32 ((rd_T24 l0 a1).f4)) := (blk_cell BK122.out 4).trans rfl; have hfz20_0 := blk_frozen BK122.out 0; have hfz20_1 := blk_frozen BK122.out 1; have hfz20_2 := blk_frozen BK122.out 2; have hfz20_3 := blk_frozen BK122.out 3; have hfz20_4 := blk_frozen BK122.out 4) | ((with_reducible refine gate_callee (f := 10) rfl ?_); refine goesL_ (some 19) rfl rfl Try.func10 (by kernel_rfl) rfl #[.agg #[.int .u8 ((rd_T24 l0 a1).f0), .int .u8 ((rd_T24 l0 a1).f1), .int .u8 ((rd_T24 l0 a1).f2), .int .i16 ((rd_T24 l0 a1).f3), .int .i32 ((rd_T24 l0 a1).f4)]] rfl (by (try simp only [List.map_toArray, List.map_cons, List.map_nil]); first | done | rfl | (simp only [List.length_drop, List.length_take]; rfl)) ?_; (with_reducible refine (isa_Right.calls k ((rd_T24 l0 a1).f0) ((rd_T24 l0 a1).f1) ((rd_T24 l0 a1).f2) ((rd_T24 l0 a1).f3) ((rd_T24 l0 a1).f4) true _ A11.out).mono ?_); rintro e w21 ⟨rfl, hb⟩; refine ⟨_, rfl, ?_⟩; have n0_ := Aside0.mk (blk_below (g := gb122) (o := .cells #[.int .u8 ((rd_T24 l0 a1).f0), .int .u8 ((rd_T24 l0 a1).f1), .int .u8 ((rd_T24 l0 a1).f2), .int .i16 ((rd_T24 l0 a1).f3), .int .i32 ((rd_T24 l0 a1).f4)] 24 (0, 0)) (by (with_reducible repeat (first | refine blk_drewN ?_ _ | refine blk_drew ?_ | refine blk_alloc ?_ _)); exact BK122.out) hb); have n1_ := Aside0.mk (below_step (by repeat (first | (with_reducible first | exact HB.out | apply below_alloc | apply pw_below_drewN | apply below_drew1 | refine below_set ?_ GE122.out) | exact HB.out)) hb); clear BK122; clear HB; have BK122 := n0_; have HB := n1_; clear n0_ n1_; (try clear hb); (try clear hb2); (try clear hk); (try clear hi); have hcz22_0 : w21.cell? ⟨gb122, 0, none⟩ = some (.int .u8 ((rd_T24 l0 a1).f0)) := (blk_cell BK122.out 0).trans rfl; have hcz22_1 : w21.cell? ⟨gb122, 1, none⟩ = some (.int .u8 ((rd_T24 l0 a1).f1)) := (blk_cell BK122.out 1).trans rfl; have hcz22_2 : w21.cell? ⟨gb122, 2, none⟩ = some (.int .u8 ((rd_T24 l0 a1).f2)) := (blk_cell BK122.out 2).trans rfl; have hcz22_3 : w21.cell? ⟨gb122, 3, none⟩ = some (.int .i16 ((rd_T24 l0 a1).f3)) := (blk_cell BK122.out 3).trans rfl; have hcz22_4 : w21.cell? ⟨gb122, 4, none⟩ = some (.int .i32 ((rd_T24 l0 a1).f4)) := (blk_cell BK122.out 4).trans rfl; have hfz22_0 := blk_frozen BK122.out 0; have hfz22_1 := blk_frozen BK122.out 1; have hfz22_2 := blk_frozen BK122.out 2; have hfz22_3 := blk_frozen BK122.out 3; have hfz22_4 := blk_frozen BK122.out 4))
                have n0_ := Aside0.mk (blk_drew BK122.out)
                have n1_ := Aside0.mk (below_drew1 HB.out)
                clear BK122
                clear HB
                have BK122 := n0_
                have HB := n1_
                clear n0_ n1_
                refine start_ (n := 23) (S := fun w' => w'.cell? ⟨gb122, 0, none⟩ = some (.int .u8 ((rd_T24 l0 a1).f0)) ∧ w'.cell? ⟨gb122, 1, none⟩ = some (.int .u8 ((rd_T24 l0 a1).f1)) ∧ w'.cell? ⟨gb122, 2, none⟩ = some (.int .u8 ((rd_T24 l0 a1).f2)) ∧ w'.cell? ⟨gb122, 3, none⟩ = some (.int .i16 ((rd_T24 l0 a1).f3)) ∧ w'.cell? ⟨gb122, 4, none⟩ = some (.int .i32 ((rd_T24 l0 a1).f4))) (ds := []) #[false, false, false, false, false, false, false, false, false, false, false, false, false, false, false, false, false, false, false, false, false, false, false] (by kernel_rfl) rfl rfl ⟨(blk_cell BK122.out 0).trans rfl, (blk_cell BK122.out 1).trans rfl, (blk_cell BK122.out 2).trans rfl, (blk_cell BK122.out 3).trans rfl, (blk_cell BK122.out 4).trans rfl⟩ (fun hHeld => ?_); refine with_tabW isa_good.tab7 isa_good.bits7 (fun HT_ HW_ => ?_)
                generalize w21.drew = w23 at BK122 HB hHeld ⊢
                refine pure_ (i := 0) (N := some 25) (v := ?_) (a' := ?_) #[true, false, false, false, false, false, false, false, false, false, false, false, false, false, false, false, false, false, false, false, false, false, false] rfl rfl (any_of HT_.out (by kernel_rfl)) (fun _ _ _ h => h) (Or.inl ⟨by rfl, ?_⟩) ?_ ?_
                rotate_left
                · intro w'
                  go_simp
                  with_reducible rfl
                rotate_left
                · simp only [Act.put, List.setIfInBounds_toArray, List.set_cons_zero, List.set_cons_succ, i64_w, i32_w]
                  rfl
                refine pure_ (i := 1) (N := some 26) (v := ?_) (a' := ?_) #[true, true, false, false, false, false, false, false, false, false, false, false, false, false, false, false, false, false, false, false, false, false, false] rfl rfl (any_of HT_.out (by kernel_rfl)) (fun _ _ _ h => h) (Or.inl ⟨by rfl, ?_⟩) ?_ ?_
                rotate_left
                · intro w'
                  go_simp
                  with_reducible rfl
                rotate_left
                · simp only [Act.put, List.setIfInBounds_toArray, List.set_cons_zero, List.set_cons_succ, i64_w, i32_w]
                  rfl
                refine pure_ (i := 2) (N := some 27) (v := ?_) (a' := ?_) #[true, true, true, false, false, false, false, false, false, false, false, false, false, false, false, false, false, false, false, false, false, false, false] rfl rfl (any_of HT_.out (by kernel_rfl)) (fun _ _ _ h => h) (Or.inl ⟨by rfl, ?_⟩) ?_ ?_
                rotate_left
                · intro w'
                  go_simp
                  with_reducible rfl
                rotate_left
                · simp only [Act.put, List.setIfInBounds_toArray, List.set_cons_zero, List.set_cons_succ, i64_w, i32_w]
                  rfl
                refine one_ (i := 3) (N := some 28) #[true, true, true, true, false, false, false, false, false, false, false, false, false, false, false, false, false, false, false, false, false, false, false] rfl rfl (one_of HT_.out (by kernel_rfl)) (by decide) (fun K hK => ?_)
                refine goes_ Try.func17 (by kernel_rfl) rfl #[.slice (some ad121) l0.length c0, .int .i64 (wrap64 (a1 + 1))] (by rfl) rfl rfl (by (try simp only [List.map_toArray, List.map_cons, List.map_nil]); first | done | rfl | (simp only [List.length_drop, List.length_take]; rfl)) ?_
                with_reducible refine (isa_Second.calls k _ _ l0 (wrap64 (a1 + 1)) true _ ?side1 ?side2 A14.out).mono ?_
                (case side1 => repeat (first | exact (Kd.C_below HR0.out HB.out) | (with_reducible refine Kd.C_alloc ?_ _) | (with_reducible refine Kd.C_drewN ?_ _) | (with_reducible refine Kd.C_drew ?_)))
                (case side2 => exact HC0.out)
                rintro e w24 ⟨rfl, hb⟩
                refine ⟨_, rfl, ?_⟩
                have n0_ := Aside0.mk (blk_below (g := gb122) (o := .cells #[.int .u8 ((rd_T24 l0 a1).f0), .int .u8 ((rd_T24 l0 a1).f1), .int .u8 ((rd_T24 l0 a1).f2), .int .i16 ((rd_T24 l0 a1).f3), .int .i32 ((rd_T24 l0 a1).f4)] 24 (0, 0)) (by (with_reducible repeat (first | refine blk_drewN ?_ _ | refine blk_drew ?_ | refine blk_alloc ?_ _)); exact BK122.out) hb)
                have n1_ := Aside0.mk (below_step (by repeat (first | (with_reducible first | exact HB.out | apply below_alloc | apply pw_below_drewN | apply below_drew1 | refine below_set ?_ GE122.out) | exact HB.out)) hb)
                clear BK122
                clear HB
                have BK122 := n0_
                have HB := n1_
                clear n0_ n1_
                (try clear hb)
                (try clear hb2)
                (try clear hk)
                (try clear hi)
                refine hK.out _ _ ⟨(blk_cell BK122.out 0).trans rfl, (blk_cell BK122.out 1).trans rfl, (blk_cell BK122.out 2).trans rfl, (blk_cell BK122.out 3).trans rfl, (blk_cell BK122.out 4).trans rfl⟩ (fun hHeld => ?_)
                clear hK K
                refine norm_ (a' := ?_) ?_ ?_
                rotate_left
                · show Act.put _ (some 28) _ = _
                  simp only [Act.put, List.setIfInBounds_toArray, List.set_cons_zero, List.set_cons_succ, i64_w, i32_w]
                  rfl
                refine pure_ (i := 4) (N := some 29) (v := ?_) (a' := ?_) #[true, true, true, true, true, false, false, false, false, false, false, false, false, false, false, false, false, false, false, false, false, false, false] rfl rfl (any_of HT_.out (by kernel_rfl)) (fun _ _ _ h => h) (Or.inl ⟨by rfl, ?_⟩) ?_ ?_
                rotate_left
                · intro w'
                  go_simp
                  with_reducible rfl
                rotate_left
                · simp only [Act.put, List.setIfInBounds_toArray, List.set_cons_zero, List.set_cons_succ, i64_w, i32_w]
                  rfl
                refine pure_ (i := 5) (N := some 30) (v := ?_) (a' := ?_) #[true, true, true, true, true, true, false, false, false, false, false, false, false, false, false, false, false, false, false, false, false, false, false] rfl rfl (any_of HT_.out (by kernel_rfl)) (fun _ _ _ h => h) (Or.inl ⟨by rfl, ?_⟩) ?_ ?_
                rotate_left
                · intro w'
                  go_simp
                  with_reducible rfl
                rotate_left
                · simp only [Act.put, List.setIfInBounds_toArray, List.set_cons_zero, List.set_cons_succ, i64_w, i32_w]
                  rfl
                refine take_ (i := 6) (N := some 31) (v := ?_) (a' := ?_) #[true, true, true, true, true, true, true, false, false, false, false, false, false, false, false, false, false, false, false, false, false, false, false] rfl rfl (take_ofW HT_.out HW_.out (by kernel_rfl)) (fun _ _ _ h => h) (Or.inl ⟨by rfl, ?_⟩) hHeld ?_ ?_
                rotate_left
                · rintro w' ⟨s0, s1, s2, s3, s4⟩
                  go_simp
                  with_reducible rfl
                rotate_left
                · simp only [Act.put, List.setIfInBounds_toArray, List.set_cons_zero, List.set_cons_succ, i64_w, i32_w]
                  rfl
                refine pure_ (i := 7) (N := some 32) (v := ?_) (a' := ?_) #[true, true, true, true, true, true, true, true, false, false, false, false, false, false, false, false, false, false, false, false, false, false, false] rfl rfl (any_of HT_.out (by kernel_rfl)) (fun _ _ _ h => h) (Or.inl ⟨by rfl, ?_⟩) ?_ ?_
                rotate_left
                · intro w'
                  go_simp
                  with_reducible rfl
                rotate_left
                · simp only [Act.put, List.setIfInBounds_toArray, List.set_cons_zero, List.set_cons_succ, i64_w, i32_w]
                  rfl
                refine pure_ (i := 8) (N := some 33) (v := ?_) (a' := ?_) #[true, true, true, true, true, true, true, true, true, false, false, false, false, false, false, false, false, false, false, false, false, false, false] rfl rfl (any_of HT_.out (by kernel_rfl)) (fun _ _ _ h => h) (Or.inl ⟨by rfl, ?_⟩) ?_ ?_
                rotate_left
                · intro w'
                  go_simp
                  with_reducible rfl
                rotate_left
                · simp only [Act.put, List.setIfInBounds_toArray, List.set_cons_zero, List.set_cons_succ, i64_w, i32_w]
                  rfl
                refine pure_ (i := 9) (N := some 34) (v := undef) (a' := ?_) #[true, true, true, true, true, true, true, true, true, true, false, false, false, false, false, false, false, false, false, false, false, false, false] rfl rfl (any_of HT_.out (by kernel_rfl)) (fun _ _ _ h => h) (Or.inr ⟨by rfl, rfl⟩) ?_ ?_
                rotate_left
                · simp only [Act.put, List.setIfInBounds_toArray, List.set_cons_zero, List.set_cons_succ, i64_w, i32_w]
                  rfl
                refine pure_ (i := 10) (N := some 35) (v := undef) (a' := ?_) #[true, true, true, true, true, true, true, true, true, true, true, false, false, false, false, false, false, false, false, false, false, false, false] rfl rfl (any_of HT_.out (by kernel_rfl)) (fun _ _ _ h => h) (Or.inr ⟨by rfl, rfl⟩) ?_ ?_
                rotate_left
                · simp only [Act.put, List.setIfInBounds_toArray, List.set_cons_zero, List.set_cons_succ, i64_w, i32_w]
                  rfl
                refine pure_ (i := 11) (N := some 36) (v := undef) (a' := ?_) #[true, true, true, true, true, true, true, true, true, true, true, true, false, false, false, false, false, false, false, false, false, false, false] rfl rfl (any_of HT_.out (by kernel_rfl)) (fun _ _ _ h => h) (Or.inr ⟨by rfl, rfl⟩) ?_ ?_
                rotate_left
                · simp only [Act.put, List.setIfInBounds_toArray, List.set_cons_zero, List.set_cons_succ, i64_w, i32_w]
                  rfl
                refine pure_ (i := 12) (N := some 37) (v := undef) (a' := ?_) #[true, true, true, true, true, true, true, true, true, true, true, true, true, false, false, false, false, false, false, false, false, false, false] rfl rfl (any_of HT_.out (by kernel_rfl)) (fun _ _ _ h => h) (Or.inr ⟨by rfl, rfl⟩) ?_ ?_
                rotate_left
                · simp only [Act.put, List.setIfInBounds_toArray, List.set_cons_zero, List.set_cons_succ, i64_w, i32_w]
                  rfl
                refine pure_ (i := 13) (N := some 38) (v := undef) (a' := ?_) #[true, true, true, true, true, true, true, true, true, true, true, true, true, true, false, false, false, false, false, false, false, false, false] rfl rfl (any_of HT_.out (by kernel_rfl)) (fun _ _ _ h => h) (Or.inr ⟨by rfl, rfl⟩) ?_ ?_
                rotate_left
                · simp only [Act.put, List.setIfInBounds_toArray, List.set_cons_zero, List.set_cons_succ, i64_w, i32_w]
                  rfl
                refine pure_ (i := 14) (N := some 39) (v := undef) (a' := ?_) #[true, true, true, true, true, true, true, true, true, true, true, true, true, true, true, false, false, false, false, false, false, false, false] rfl rfl (any_of HT_.out (by kernel_rfl)) (fun _ _ _ h => h) (Or.inr ⟨by rfl, rfl⟩) ?_ ?_
                rotate_left
                · simp only [Act.put, List.setIfInBounds_toArray, List.set_cons_zero, List.set_cons_succ, i64_w, i32_w]
                  rfl
                refine pure_ (i := 15) (N := some 40) (v := undef) (a' := ?_) #[true, true, true, true, true, true, true, true, true, true, true, true, true, true, true, true, false, false, false, false, false, false, false] rfl rfl (any_of HT_.out (by kernel_rfl)) (fun _ _ _ h => h) (Or.inr ⟨by rfl, rfl⟩) ?_ ?_
                rotate_left
                · simp only [Act.put, List.setIfInBounds_toArray, List.set_cons_zero, List.set_cons_succ, i64_w, i32_w]
                  rfl
                refine pure_ (i := 16) (N := some 41) (v := undef) (a' := ?_) #[true, true, true, true, true, true, true, true, true, true, true, true, true, true, true, true, true, false, false, false, false, false, false] rfl rfl (any_of HT_.out (by kernel_rfl)) (fun _ _ _ h => h) (Or.inr ⟨by rfl, rfl⟩) ?_ ?_
                rotate_left
                · simp only [Act.put, List.setIfInBounds_toArray, List.set_cons_zero, List.set_cons_succ, i64_w, i32_w]
                  rfl
                refine pure_ (i := 17) (N := some 42) (v := undef) (a' := ?_) #[true, true, true, true, true, true, true, true, true, true, true, true, true, true, true, true, true, true, false, false, false, false, false] rfl rfl (any_of HT_.out (by kernel_rfl)) (fun _ _ _ h => h) (Or.inr ⟨by rfl, rfl⟩) ?_ ?_
                rotate_left
                · simp only [Act.put, List.setIfInBounds_toArray, List.set_cons_zero, List.set_cons_succ, i64_w, i32_w]
                  rfl
                refine pure_ (i := 18) (N := some 43) (v := undef) (a' := ?_) #[true, true, true, true, true, true, true, true, true, true, true, true, true, true, true, true, true, true, true, false, false, false, false] rfl rfl (any_of HT_.out (by kernel_rfl)) (fun _ _ _ h => h) (Or.inr ⟨by rfl, rfl⟩) ?_ ?_
                rotate_left
                · simp only [Act.put, List.setIfInBounds_toArray, List.set_cons_zero, List.set_cons_succ, i64_w, i32_w]
                  rfl
                refine pure_ (i := 19) (N := some 44) (v := undef) (a' := ?_) #[true, true, true, true, true, true, true, true, true, true, true, true, true, true, true, true, true, true, true, true, false, false, false] rfl rfl (any_of HT_.out (by kernel_rfl)) (fun _ _ _ h => h) (Or.inr ⟨by rfl, rfl⟩) ?_ ?_
                rotate_left
                · simp only [Act.put, List.setIfInBounds_toArray, List.set_cons_zero, List.set_cons_succ, i64_w, i32_w]
                  rfl
                refine pure_ (i := 20) (N := some 45) (v := ?_) (a' := ?_) #[true, true, true, true, true, true, true, true, true, true, true, true, true, true, true, true, true, true, true, true, true, false, false] rfl rfl (any_of HT_.out (by kernel_rfl)) (fun _ _ _ h => h) (Or.inl ⟨by rfl, ?_⟩) ?_ ?_
                rotate_left
                · intro w'
                  go_simp
                  with_reducible rfl
                rotate_left
                · simp only [Act.put, List.setIfInBounds_toArray, List.set_cons_zero, List.set_cons_succ, i64_w, i32_w]
                  rfl
                refine pure_ (i := 21) (N := some 46) (v := ?_) (a' := ?_) #[true, true, true, true, true, true, true, true, true, true, true, true, true, true, true, true, true, true, true, true, true, true, false] rfl rfl (any_of HT_.out (by kernel_rfl)) (fun _ _ _ h => h) (Or.inl ⟨by rfl, ?_⟩) ?_ ?_
                rotate_left
                · intro w'
                  go_simp
                  with_reducible rfl
                rotate_left
                · simp only [Act.put, List.setIfInBounds_toArray, List.set_cons_zero, List.set_cons_succ, i64_w, i32_w]
                  rfl
                refine pure_ (i := 22) (N := some 6) (v := ?_) (a' := ?_) #[true, true, true, true, true, true, true, true, true, true, true, true, true, true, true, true, true, true, true, true, true, true, true] rfl rfl (any_of HT_.out (by kernel_rfl)) (fun _ _ _ h => h) (Or.inl ⟨by rfl, ?_⟩) ?_ ?_
                rotate_left
                · intro w'
                  go_simp
                  with_reducible rfl
                rotate_left
                · simp only [Act.put, List.setIfInBounds_toArray, List.set_cons_zero, List.set_cons_succ, i64_w, i32_w]
                  rfl
                refine done_ (done_of HT_.out (by kernel_rfl)) ?_
                try go_wp2
                go_ret
                exact ⟨by first | rfl | (simp [errW_none, errW_some] <;> rfl) | (simp [*, errW_none, errW_some] <;> rfl), by repeat (first | (with_reducible first | exact HB.out | apply below_alloc | apply pw_below_drewN | apply below_drew1 | refine below_set ?_ GE122.out) | exact HB.out)⟩
              · rw [if_neg c16] at H
                have c16b0 : (((rd_T24 l0 a1).f2) == 0) = false := beq_eq_false_iff_ne.mpr c16
                have c16b1 : (((rd_T24 l0 a1).f2) != 0) = true := bne_iff_ne.mpr c16
                obtain ⟨ji25, hji25⟩ : ∃ j_ : Int, (wrap64 (a1 + 1)) = j_ := ⟨_, rfl⟩
                replace H : (if 0 ≤ (ji25) then (if (ji25) < (l0.length : Int) then ((inst_Wide.f ((rd_T24 l0 a1).f0) ((rd_T24 l0 a1).f1) ((rd_T24 l0 a1).f2) ((rd_T24 l0 a1).f3) ((rd_T24 l0 a1).f4) ((rd_T24 l0 (ji25)).f0) ((rd_T24 l0 (ji25)).f1) ((rd_T24 l0 (ji25)).f2) ((rd_T24 l0 (ji25)).f3) ((rd_T24 l0 (ji25)).f4)).bind fun t127 => (some (decide (t127 < (IntKind.u64.wrap (mx a2 0)))))) else (none)) else (none)) = some r := by first | (rw [hji25] at H; exact H) | (simp only [hji25] at H ⊢; exact H)
                (try rw [hji25] at A6)
                (try rw [hji25] at A11)
                (try rw [hji25] at A14)
                have hji25w : (IntKind.i64.wrap (a1 + 1)) = ji25 := (i64_w _).trans hji25
                by_cases c26 : 0 ≤ (ji25)
                · rw [if_pos c26] at H
                  have c26b0 : decide (0 ≤ (ji25)) = true := decide_eq_true c26
                  clear c26
                  by_cases c27 : (ji25) < (l0.length : Int)
                  · rw [if_pos c27] at H
                    have c27b0 : decide ((ji25) < (l0.length : Int)) = true := decide_eq_true c27
                    clear c27
                    replace H := Option.bind_eq_some_iff.mp H
                    obtain ⟨t127, A280, H⟩ := H
                    replace H : (some (decide (t127 < (IntKind.u64.wrap (mx a2 0))))) = some r := H
                    have A28 := Aside0.mk A280
                    clear A280
                    obtain ⟨ji29, hji29⟩ : ∃ j_ : Int, (mx a2 0) = j_ := ⟨_, rfl⟩
                    replace H : (some (decide (t127 < (IntKind.u64.wrap (ji29))))) = some r := by first | (rw [hji29] at H; exact H) | (simp only [hji29] at H ⊢; exact H)
                    (try rw [hji29] at A6)
                    (try rw [hji29] at A11)
                    (try rw [hji29] at A14)
                    (try rw [hji29] at A28)
                    (try (have hji29l : 0 ≤ ji29 := by (rw [← hji29]; unfold mx; (repeat' split) <;> omega)))
                    (try (have hji29m : 0 ≤ ji29 := by omega))
                    have hji29_ : (if a2 < 0 then 0 else a2) = ji29 := hji29
                    obtain rfl := Option.some.inj H
                    have p121 : 0 ≤ (a1 : Int) := of_decide_eq_true (by first | (with_reducible assumption) | assumption)
                    have q121 : a1 < (l0.length : Int) := of_decide_eq_true (by first | (with_reducible assumption) | assumption)
                    obtain ⟨ad121, e121, hx121_0, hx121_1, hx121_2, hx121_3, hx121_4⟩ := at_T24 HR0.out a1 p121 q121
                    cases e121
                    replace p121 := eq_true p121
                    replace q121 := eq_true q121
                    go_enter Try.func42, Try.ntmps42
                    try go_wp2_with (first | ((with_reducible refine gate_dst (N := 7) rfl ?_); (try (refine gate_guard (by rfl) ?_; dsimp only)); refine box_event ?hg (N := 7) ?hd (cs := #[.int .u8 0, .int .u8 0, .int .u8 0, .int .i16 0, .int .i32 0]) (t := 24) ?hr ?_; (case hd => rfl); (case hg => rfl); (case hr => first | (go_simp; done) | (go_simp; rfl)); intro gb122 hg w30 hbox hb; have n0_ := Aside0.mk (below_step (by repeat (first | (with_reducible first | exact HB.out | apply below_alloc | apply pw_below_drewN | apply below_drew1) | exact HB.out)) hb); have n1_ := Aside0.mk (hbox); have n2_ := Aside0.mk ((by rw [hg]; exact (below_size (by repeat (first | (with_reducible first | exact HB.out | apply below_alloc | apply pw_below_drewN | apply below_drew1) | exact HB.out))) : w.heap.size ≤ gb122)); have n3_ := Aside0.mk ((by rw [hg]; exact (below_size (by repeat (first | (with_reducible first | exact HB.out | apply below_alloc | apply pw_below_drewN | apply below_drew1) | exact HB.out))) : w.heap.size ≤ gb122)); clear HB; have HB := n0_; have BK122 := n1_; have GW122 := n2_; have GE122 := n3_; clear n0_ n1_ n2_ n3_; clear hb hbox hg; have hcz31_0 : w30.cell? ⟨gb122, 0, none⟩ = some (.int .u8 0) := (blk_cell BK122.out 0).trans rfl; have hcz31_1 : w30.cell? ⟨gb122, 1, none⟩ = some (.int .u8 0) := (blk_cell BK122.out 1).trans rfl; have hcz31_2 : w30.cell? ⟨gb122, 2, none⟩ = some (.int .u8 0) := (blk_cell BK122.out 2).trans rfl; have hcz31_3 : w30.cell? ⟨gb122, 3, none⟩ = some (.int .i16 0) := (blk_cell BK122.out 3).trans rfl; have hcz31_4 : w30.cell? ⟨gb122, 4, none⟩ = some (.int .i32 0) := (blk_cell BK122.out 4).trans rfl; have hfz31_0 := blk_frozen BK122.out 0; have hfz31_1 := blk_frozen BK122.out 1; have hfz31_2 := blk_frozen BK122.out 2; have hfz31_3 := blk_frozen BK122.out 3; have hfz31_4 := blk_frozen BK122.out 4) | ((with_reducible refine gate_callee (f := 17) rfl ?_); refine goesL_ (some 16) rfl rfl Try.func17 (by kernel_rfl) rfl #[.slice (some ad121) l0.length c0, .int .i64 a1] rfl (by (try simp only [List.map_toArray, List.map_cons, List.map_nil]); first | done | rfl | (simp only [List.length_drop, List.length_take]; rfl)) ?_; (with_reducible refine (isa_Second.calls k _ _ l0 a1 false _ ?side1 ?side2 A6.out).mono ?_); (case side1 => exact Kd.C_below HR0.out (by repeat (first | (with_reducible first | exact HB.out | apply below_alloc | apply pw_below_drewN | apply below_drew1 | refine below_set ?_ GE122.out) | exact HB.out))); (case side2 => exact HC0.out); rintro e w32 ⟨rfl, hb⟩; refine ⟨_, rfl, ?_⟩; have n0_ := Aside0.mk (blk_below (g := gb122) (o := .cells #[.int .u8 ((rd_T24 l0 a1).f0), .int .u8 ((rd_T24 l0 a1).f1), .int .u8 ((rd_T24 l0 a1).f2), .int .i16 ((rd_T24 l0 a1).f3), .int .i32 ((rd_T24 l0 a1).f4)] 24 (0, 0)) (by (with_reducible repeat (first | refine blk_drewN ?_ _ | refine blk_drew ?_ | refine blk_alloc ?_ _)); refine blk_put (cs := #[.int .u8 ((rd_T24 l0 a1).f0), .int .u8 ((rd_T24 l0 a1).f1), .int .u8 ((rd_T24 l0 a1).f2), .int .i16 ((rd_T24 l0 a1).f3), .int .i32 0]) ?_ 4 _ rfl; (with_reducible repeat (first | refine blk_drewN ?_ _ | refine blk_drew ?_ | refine blk_alloc ?_ _)); refine blk_put (cs := #[.int .u8 ((rd_T24 l0 a1).f0), .int .u8 ((rd_T24 l0 a1).f1), .int .u8 ((rd_T24 l0 a1).f2), .int .i16 0, .int .i32 0]) ?_ 3 _ rfl; (with_reducible repeat (first | refine blk_drewN ?_ _ | refine blk_drew ?_ | refine blk_alloc ?_ _)); refine blk_put (cs := #[.int .u8 ((rd_T24 l0 a1).f0), .int .u8 ((rd_T24 l0 a1).f1), .int .u8 0, .int .i16 0, .int .i32 0]) ?_ 2 _ rfl; (with_reducible repeat (first | refine blk_drewN ?_ _ | refine blk_drew ?_ | refine blk_alloc ?_ _)); refine blk_put (cs := #[.int .u8 ((rd_T24 l0 a1).f0), .int .u8 0, .int .u8 0, .int .i16 0, .int .i32 0]) ?_ 1 _ rfl; (with_reducible repeat (first | refine blk_drewN ?_ _ | refine blk_drew ?_ | refine blk_alloc ?_ _)); refine blk_put (cs := #[.int .u8 0, .int .u8 0, .int .u8 0, .int .i16 0, .int .i32 0]) ?_ 0 _ rfl; (with_reducible repeat (first | refine blk_drewN ?_ _ | refine blk_drew ?_ | refine blk_alloc ?_ _)); exact BK122.out) hb); have n1_ := Aside0.mk (below_step (by repeat (first | (with_reducible first | exact HB.out | apply below_alloc | apply pw_below_drewN | apply below_drew1 | refine below_set ?_ GE122.out) | exact HB.out)) hb); clear BK122; clear HB; have BK122 := n0_; have HB := n1_; clear n0_ n1_; (try clear hb); (try clear hb2); (try clear hk); (try clear hi); have hcz33_0 : w32.cell? ⟨gb122, 0, none⟩ = some (.int .u8 ((rd_T24 l0 a1).f0)) := (blk_cell BK122.out 0).trans rfl; have hcz33_1 : w32.cell? ⟨gb122, 1, none⟩ = some (.int .u8 ((rd_T24 l0 a1).f1)) := (blk_cell BK122.out 1).trans rfl; have hcz33_2 : w32.cell? ⟨gb122, 2, none⟩ = some (.int .u8 ((rd_T24 l0 a1).f2)) := (blk_cell BK122.out 2).trans rfl; have hcz33_3 : w32.cell? ⟨gb122, 3, none⟩ = some (.int .i16 ((rd_T24 l0 a1).f3)) := (blk_cell BK122.out 3).trans rfl; have hcz33_4 : w32.cell? ⟨gb122, 4, none⟩ = some (.int .i32 ((rd_T24 l0 a1).f4)) := (blk_cell BK122.out 4).trans rfl; have hfz33_0 := blk_frozen BK122.out 0; have hfz33_1 := blk_frozen BK122.out 1; have hfz33_2 := blk_frozen BK122.out 2; have hfz33_3 := blk_frozen BK122.out 3; have hfz33_4 := blk_frozen BK122.out 4) | ((with_reducible refine gate_callee (f := 10) rfl ?_); refine goesL_ (some 19) rfl rfl Try.func10 (by kernel_rfl) rfl #[.agg #[.int .u8 ((rd_T24 l0 a1).f0), .int .u8 ((rd_T24 l0 a1).f1), .int .u8 ((rd_T24 l0 a1).f2), .int .i16 ((rd_T24 l0 a1).f3), .int .i32 ((rd_T24 l0 a1).f4)]] rfl (by (try simp only [List.map_toArray, List.map_cons, List.map_nil]); first | done | rfl | (simp only [List.length_drop, List.length_take]; rfl)) ?_; (with_reducible refine (isa_Right.calls k ((rd_T24 l0 a1).f0) ((rd_T24 l0 a1).f1) ((rd_T24 l0 a1).f2) ((rd_T24 l0 a1).f3) ((rd_T24 l0 a1).f4) true _ A11.out).mono ?_); rintro e w34 ⟨rfl, hb⟩; refine ⟨_, rfl, ?_⟩; have n0_ := Aside0.mk (blk_below (g := gb122) (o := .cells #[.int .u8 ((rd_T24 l0 a1).f0), .int .u8 ((rd_T24 l0 a1).f1), .int .u8 ((rd_T24 l0 a1).f2), .int .i16 ((rd_T24 l0 a1).f3), .int .i32 ((rd_T24 l0 a1).f4)] 24 (0, 0)) (by (with_reducible repeat (first | refine blk_drewN ?_ _ | refine blk_drew ?_ | refine blk_alloc ?_ _)); exact BK122.out) hb); have n1_ := Aside0.mk (below_step (by repeat (first | (with_reducible first | exact HB.out | apply below_alloc | apply pw_below_drewN | apply below_drew1 | refine below_set ?_ GE122.out) | exact HB.out)) hb); clear BK122; clear HB; have BK122 := n0_; have HB := n1_; clear n0_ n1_; (try clear hb); (try clear hb2); (try clear hk); (try clear hi); have hcz35_0 : w34.cell? ⟨gb122, 0, none⟩ = some (.int .u8 ((rd_T24 l0 a1).f0)) := (blk_cell BK122.out 0).trans rfl; have hcz35_1 : w34.cell? ⟨gb122, 1, none⟩ = some (.int .u8 ((rd_T24 l0 a1).f1)) := (blk_cell BK122.out 1).trans rfl; have hcz35_2 : w34.cell? ⟨gb122, 2, none⟩ = some (.int .u8 ((rd_T24 l0 a1).f2)) := (blk_cell BK122.out 2).trans rfl; have hcz35_3 : w34.cell? ⟨gb122, 3, none⟩ = some (.int .i16 ((rd_T24 l0 a1).f3)) := (blk_cell BK122.out 3).trans rfl; have hcz35_4 : w34.cell? ⟨gb122, 4, none⟩ = some (.int .i32 ((rd_T24 l0 a1).f4)) := (blk_cell BK122.out 4).trans rfl; have hfz35_0 := blk_frozen BK122.out 0; have hfz35_1 := blk_frozen BK122.out 1; have hfz35_2 := blk_frozen BK122.out 2; have hfz35_3 := blk_frozen BK122.out 3; have hfz35_4 := blk_frozen BK122.out 4))
                    have n0_ := Aside0.mk (blk_drew BK122.out)
                    have n1_ := Aside0.mk (below_drew1 HB.out)
                    clear BK122
                    clear HB
                    have BK122 := n0_
                    have HB := n1_
                    clear n0_ n1_
                    have p126 : 0 ≤ ((ji25) : Int) := of_decide_eq_true (by first | (with_reducible assumption) | assumption)
                    have q126 : (ji25) < (l0.length : Int) := of_decide_eq_true (by first | (with_reducible assumption) | assumption)
                    obtain ⟨ad126, e126, hx126_0, hx126_1, hx126_2, hx126_3, hx126_4⟩ := at_T24 HR0.out (ji25) p126 q126
                    have hw126_4 := hx126_4
                    have hw126_3 := hx126_3
                    have hw126_2 := hx126_2
                    have hw126_1 := hx126_1
                    have hw126_0 := hx126_0
                    obtain rfl : ad121 = ad126 := (by injection e126)
                    replace hx126_0 := (HB.out.cell (World.block_lt_of_cell? w _ hx126_0)).trans hx126_0
                    replace hx126_1 := (HB.out.cell (World.block_lt_of_cell? w _ hx126_1)).trans hx126_1
                    replace hx126_2 := (HB.out.cell (World.block_lt_of_cell? w _ hx126_2)).trans hx126_2
                    replace hx126_3 := (HB.out.cell (World.block_lt_of_cell? w _ hx126_3)).trans hx126_3
                    replace hx126_4 := (HB.out.cell (World.block_lt_of_cell? w _ hx126_4)).trans hx126_4
                    replace p126 := eq_true p126
                    replace q126 := eq_true q126
                    refine start_ (n := 23) (S := fun w' => w'.cell? ⟨gb122, 0, none⟩ = some (.int .u8 ((rd_T24 l0 a1).f0)) ∧ w'.cell? ⟨gb122, 1, none⟩ = some (.int .u8 ((rd_T24 l0 a1).f1)) ∧ w'.cell? ⟨gb122, 2, none⟩ = some (.int .u8 ((rd_T24 l0 a1).f2)) ∧ w'.cell? ⟨gb122, 3, none⟩ = some (.int .i16 ((rd_T24 l0 a1).f3)) ∧ w'.cell? ⟨gb122, 4, none⟩ = some (.int .i32 ((rd_T24 l0 a1).f4)) ∧ w'.cell? (ad121.add (((ji25)).toNat * 5)) = some (.int .u8 ((rd_T24 l0 (ji25)).f0)) ∧ w'.cell? ⟨(ad121.add (((ji25)).toNat * 5)).block, (ad121.add (((ji25)).toNat * 5)).off + 1, none⟩ = some (.int .u8 ((rd_T24 l0 (ji25)).f1)) ∧ w'.cell? ⟨(ad121.add (((ji25)).toNat * 5)).block, (ad121.add (((ji25)).toNat * 5)).off + 2, none⟩ = some (.int .u8 ((rd_T24 l0 (ji25)).f2)) ∧ w'.cell? ⟨(ad121.add (((ji25)).toNat * 5)).block, (ad121.add (((ji25)).toNat * 5)).off + 3, none⟩ = some (.int .i16 ((rd_T24 l0 (ji25)).f3)) ∧ w'.cell? ⟨(ad121.add (((ji25)).toNat * 5)).block, (ad121.add (((ji25)).toNat * 5)).off + 4, none⟩ = some (.int .i32 ((rd_T24 l0 (ji25)).f4))) (ds := []) #[false, false, false, false, false, false, false, false, false, false, false, false, false, false, false, false, false, false, false, false, false, false, false] (by kernel_rfl) rfl rfl ⟨(blk_cell BK122.out 0).trans rfl, (blk_cell BK122.out 1).trans rfl, (blk_cell BK122.out 2).trans rfl, (blk_cell BK122.out 3).trans rfl, (blk_cell BK122.out 4).trans rfl, ((HB.out.cell (World.block_lt_of_cell? w _ hw126_0)).trans hw126_0), ((HB.out.cell (World.block_lt_of_cell? w _ hw126_1)).trans hw126_1), ((HB.out.cell (World.block_lt_of_cell? w _ hw126_2)).trans hw126_2), ((HB.out.cell (World.block_lt_of_cell? w _ hw126_3)).trans hw126_3), ((HB.out.cell (World.block_lt_of_cell? w _ hw126_4)).trans hw126_4)⟩ (fun hHeld => ?_); refine with_tabW isa_good.tab7 isa_good.bits7 (fun HT_ HW_ => ?_)
                    generalize w34.drew = w36 at BK122 HB hx126_0 hx126_1 hx126_2 hx126_3 hx126_4 hHeld ⊢
                    refine pure_ (i := 0) (N := some 25) (v := ?_) (a' := ?_) #[true, false, false, false, false, false, false, false, false, false, false, false, false, false, false, false, false, false, false, false, false, false, false] rfl rfl (any_of HT_.out (by kernel_rfl)) (fun _ _ _ h => h) (Or.inl ⟨by rfl, ?_⟩) ?_ ?_
                    rotate_left
                    · intro w'
                      go_simp
                      with_reducible rfl
                    rotate_left
                    · simp only [Act.put, List.setIfInBounds_toArray, List.set_cons_zero, List.set_cons_succ, i64_w, i32_w]
                      rfl
                    refine pure_ (i := 1) (N := some 26) (v := ?_) (a' := ?_) #[true, true, false, false, false, false, false, false, false, false, false, false, false, false, false, false, false, false, false, false, false, false, false] rfl rfl (any_of HT_.out (by kernel_rfl)) (fun _ _ _ h => h) (Or.inl ⟨by rfl, ?_⟩) ?_ ?_
                    rotate_left
                    · intro w'
                      go_simp
                      with_reducible rfl
                    rotate_left
                    · simp only [Act.put, List.setIfInBounds_toArray, List.set_cons_zero, List.set_cons_succ, i64_w, i32_w]
                      rfl
                    refine pure_ (i := 2) (N := some 27) (v := ?_) (a' := ?_) #[true, true, true, false, false, false, false, false, false, false, false, false, false, false, false, false, false, false, false, false, false, false, false] rfl rfl (any_of HT_.out (by kernel_rfl)) (fun _ _ _ h => h) (Or.inl ⟨by rfl, ?_⟩) ?_ ?_
                    rotate_left
                    · intro w'
                      go_simp
                      with_reducible rfl
                    rotate_left
                    · simp only [Act.put, List.setIfInBounds_toArray, List.set_cons_zero, List.set_cons_succ, i64_w, i32_w]
                      rfl
                    refine one_ (i := 3) (N := some 28) #[true, true, true, true, false, false, false, false, false, false, false, false, false, false, false, false, false, false, false, false, false, false, false] rfl rfl (one_of HT_.out (by kernel_rfl)) (by decide) (fun K hK => ?_)
                    refine goes_ Try.func17 (by kernel_rfl) rfl #[.slice (some ad121) l0.length c0, .int .i64 ji25] (by rfl) rfl rfl (by (try simp only [List.map_toArray, List.map_cons, List.map_nil]); first | done | (simp only [hji25]; rfl) | rfl | (simp only [List.length_drop, List.length_take]; rfl)) ?_
                    with_reducible refine (isa_Second.calls k _ _ l0 ji25 true _ ?side1 ?side2 A14.out).mono ?_
                    (case side1 => repeat (first | exact (Kd.C_below HR0.out HB.out) | (with_reducible refine Kd.C_alloc ?_ _) | (with_reducible refine Kd.C_drewN ?_ _) | (with_reducible refine Kd.C_drew ?_)))
                    (case side2 => exact HC0.out)
                    rintro e w37 ⟨rfl, hb⟩
                    refine ⟨_, rfl, ?_⟩
                    have n0_ := Aside0.mk (blk_below (g := gb122) (o := .cells #[.int .u8 ((rd_T24 l0 a1).f0), .int .u8 ((rd_T24 l0 a1).f1), .int .u8 ((rd_T24 l0 a1).f2), .int .i16 ((rd_T24 l0 a1).f3), .int .i32 ((rd_T24 l0 a1).f4)] 24 (0, 0)) (by (with_reducible repeat (first | refine blk_drewN ?_ _ | refine blk_drew ?_ | refine blk_alloc ?_ _)); exact BK122.out) hb)
                    have n1_ := Aside0.mk (below_step (by repeat (first | (with_reducible first | exact HB.out | apply below_alloc | apply pw_below_drewN | apply below_drew1 | refine below_set ?_ GE122.out) | exact HB.out)) hb)
                    clear BK122
                    clear HB
                    have BK122 := n0_
                    have HB := n1_
                    clear n0_ n1_
                    (try clear hb)
                    (try clear hb2)
                    (try clear hk)
                    (try clear hi)
                    refine hK.out _ _ ⟨(blk_cell BK122.out 0).trans rfl, (blk_cell BK122.out 1).trans rfl, (blk_cell BK122.out 2).trans rfl, (blk_cell BK122.out 3).trans rfl, (blk_cell BK122.out 4).trans rfl, ((HB.out.cell (World.block_lt_of_cell? w _ hw126_0)).trans hw126_0), ((HB.out.cell (World.block_lt_of_cell? w _ hw126_1)).trans hw126_1), ((HB.out.cell (World.block_lt_of_cell? w _ hw126_2)).trans hw126_2), ((HB.out.cell (World.block_lt_of_cell? w _ hw126_3)).trans hw126_3), ((HB.out.cell (World.block_lt_of_cell? w _ hw126_4)).trans hw126_4)⟩ (fun hHeld => ?_)
                    clear hK K
                    refine norm_ (a' := ?_) ?_ ?_
                    rotate_left
                    · show Act.put _ (some 28) _ = _
                      simp only [Act.put, List.setIfInBounds_toArray, List.set_cons_zero, List.set_cons_succ, i64_w, i32_w]
                      rfl
                    refine pure_ (i := 4) (N := some 29) (v := ?_) (a' := ?_) #[true, true, true, true, true, false, false, false, false, false, false, false, false, false, false, false, false, false, false, false, false, false, false] rfl rfl (any_of HT_.out (by kernel_rfl)) (fun _ _ _ h => h) (Or.inl ⟨by rfl, ?_⟩) ?_ ?_
                    rotate_left
                    · intro w'
                      go_simp
                      with_reducible rfl
                    rotate_left
                    · simp only [Act.put, List.setIfInBounds_toArray, List.set_cons_zero, List.set_cons_succ, i64_w, i32_w]
                      rfl
                    refine pure_ (i := 5) (N := some 30) (v := ?_) (a' := ?_) #[true, true, true, true, true, true, false, false, false, false, false, false, false, false, false, false, false, false, false, false, false, false, false] rfl rfl (any_of HT_.out (by kernel_rfl)) (fun _ _ _ h => h) (Or.inl ⟨by rfl, ?_⟩) ?_ ?_
                    rotate_left
                    · intro w'
                      go_simp
                      with_reducible rfl
                    rotate_left
                    · simp only [Act.put, List.setIfInBounds_toArray, List.set_cons_zero, List.set_cons_succ, i64_w, i32_w]
                      rfl
                    refine take_ (i := 6) (N := some 31) (v := ?_) (a' := ?_) #[true, true, true, true, true, true, true, false, false, false, false, false, false, false, false, false, false, false, false, false, false, false, false] rfl rfl (take_ofW HT_.out HW_.out (by kernel_rfl)) (fun _ _ _ h => h) (Or.inl ⟨by rfl, ?_⟩) hHeld ?_ ?_
                    rotate_left
                    · rintro w' ⟨s0, s1, s2, s3, s4, s5, s6, s7, s8, s9⟩
                      go_simp
                      with_reducible rfl
                    rotate_left
                    · simp only [Act.put, List.setIfInBounds_toArray, List.set_cons_zero, List.set_cons_succ, i64_w, i32_w]
                      rfl
                    refine pure_ (i := 7) (N := some 32) (v := ?_) (a' := ?_) #[true, true, true, true, true, true, true, true, false, false, false, false, false, false, false, false, false, false, false, false, false, false, false] rfl rfl (any_of HT_.out (by kernel_rfl)) (fun _ _ _ h => h) (Or.inl ⟨by rfl, ?_⟩) ?_ ?_
                    rotate_left
                    · intro w'
                      go_simp
                      with_reducible rfl
                    rotate_left
                    · simp only [Act.put, List.setIfInBounds_toArray, List.set_cons_zero, List.set_cons_succ, i64_w, i32_w]
                      rfl
                    refine pure_ (i := 8) (N := some 33) (v := ?_) (a' := ?_) #[true, true, true, true, true, true, true, true, true, false, false, false, false, false, false, false, false, false, false, false, false, false, false] rfl rfl (any_of HT_.out (by kernel_rfl)) (fun _ _ _ h => h) (Or.inl ⟨by rfl, ?_⟩) ?_ ?_
                    rotate_left
                    · intro w'
                      go_simp
                      with_reducible rfl
                    rotate_left
                    · simp only [Act.put, List.setIfInBounds_toArray, List.set_cons_zero, List.set_cons_succ, i64_w, i32_w]
                      rfl
                    refine pure_ (i := 10) (N := some 35) (v := ?_) (a' := ?_) #[true, true, true, true, true, true, true, true, true, false, true, false, false, false, false, false, false, false, false, false, false, false, false] rfl rfl (any_of HT_.out (by kernel_rfl)) (fun _ _ _ h => h) (Or.inl ⟨by rfl, ?_⟩) ?_ ?_
                    rotate_left
                    · intro w'
                      go_simp
                      with_reducible rfl
                    rotate_left
                    · simp only [Act.put, List.setIfInBounds_toArray, List.set_cons_zero, List.set_cons_succ, i64_w, i32_w]
                      rfl
                    refine pure_ (i := 11) (N := some 36) (v := ?_) (a' := ?_) #[true, true, true, true, true, true, true, true, true, false, true, true, false, false, false, false, false, false, false, false, false, false, false] rfl rfl (any_of HT_.out (by kernel_rfl)) (fun _ _ _ h => h) (Or.inl ⟨by rfl, ?_⟩) ?_ ?_
                    rotate_left
                    · intro w'
                      go_simp
                      with_reducible rfl
                    rotate_left
                    · simp only [Act.put, List.setIfInBounds_toArray, List.set_cons_zero, List.set_cons_succ, i64_w, i32_w]
                      rfl
                    refine pure_ (i := 12) (N := some 37) (v := ?_) (a' := ?_) #[true, true, true, true, true, true, true, true, true, false, true, true, true, false, false, false, false, false, false, false, false, false, false] rfl rfl (any_of HT_.out (by kernel_rfl)) (fun _ _ _ h => h) (Or.inl ⟨by rfl, ?_⟩) ?_ ?_
                    rotate_left
                    · intro w'
                      go_simp
                      with_reducible rfl
                    rotate_left
                    · simp only [Act.put, List.setIfInBounds_toArray, List.set_cons_zero, List.set_cons_succ, i64_w, i32_w]
                      rfl
                    refine pure_ (i := 13) (N := some 38) (v := ?_) (a' := ?_) #[true, true, true, true, true, true, true, true, true, false, true, true, true, true, false, false, false, false, false, false, false, false, false] rfl rfl (any_of HT_.out (by kernel_rfl)) (fun _ _ _ h => h) (Or.inl ⟨by rfl, ?_⟩) ?_ ?_
                    rotate_left
                    · intro w'
                      go_simp
                      with_reducible rfl
                    rotate_left
                    · simp only [Act.put, List.setIfInBounds_toArray, List.set_cons_zero, List.set_cons_succ, i64_w, i32_w]
                      rfl
                    refine pure_ (i := 16) (N := some 41) (v := ?_) (a' := ?_) #[true, true, true, true, true, true, true, true, true, false, true, true, true, true, false, false, true, false, false, false, false, false, false] rfl rfl (any_of HT_.out (by kernel_rfl)) (fun _ _ _ h => h) (Or.inl ⟨by rfl, ?_⟩) ?_ ?_
                    rotate_left
                    · intro w'
                      go_simp
                      with_reducible rfl
                    rotate_left
                    · simp only [Act.put, List.setIfInBounds_toArray, List.set_cons_zero, List.set_cons_succ, i64_w, i32_w]
                      rfl
                    refine pure_ (i := 17) (N := some 42) (v := ?_) (a' := ?_) #[true, true, true, true, true, true, true, true, true, false, true, true, true, true, false, false, true, true, false, false, false, false, false] rfl rfl (any_of HT_.out (by kernel_rfl)) (fun _ _ _ h => h) (Or.inl ⟨by rfl, ?_⟩) ?_ ?_
                    rotate_left
                    · intro w'
                      go_simp
                      with_reducible rfl
                    rotate_left
                    · simp only [Act.put, List.setIfInBounds_toArray, List.set_cons_zero, List.set_cons_succ, i64_w, i32_w]
                      rfl
                    refine pure_ (i := 18) (N := some 43) (v := ?_) (a' := ?_) #[true, true, true, true, true, true, true, true, true, false, true, true, true, true, false, false, true, true, true, false, false, false, false] rfl rfl (any_of HT_.out (by kernel_rfl)) (fun _ _ _ h => h) (Or.inl ⟨by rfl, ?_⟩) ?_ ?_
                    rotate_left
                    · intro w'
                      go_simp
                      with_reducible rfl
                    rotate_left
                    · simp only [Act.put, List.setIfInBounds_toArray, List.set_cons_zero, List.set_cons_succ, i64_w, i32_w]
                      rfl
                    refine take_ (i := 9) (N := some 34) (v := ?_) (a' := ?_) #[true, true, true, true, true, true, true, true, true, true, true, true, true, true, false, false, true, true, true, false, false, false, false] rfl rfl (take_ofW HT_.out HW_.out (by kernel_rfl)) (fun _ _ _ h => h) (Or.inl ⟨by rfl, ?_⟩) hHeld ?_ ?_
                    rotate_left
                    · rintro w' ⟨s0, s1, s2, s3, s4, s5, s6, s7, s8, s9⟩
                      go_simp
                      with_reducible rfl
                    rotate_left
                    · simp only [Act.put, List.setIfInBounds_toArray, List.set_cons_zero, List.set_cons_succ, i64_w, i32_w]
                      rfl
                    refine take_ (i := 14) (N := some 39) (v := ?_) (a' := ?_) #[true, true, true, true, true, true, true, true, true, true, true, true, true, true, true, false, true, true, true, false, false, false, false] rfl rfl (take_ofW HT_.out HW_.out (by kernel_rfl)) (fun _ _ _ h => h) (Or.inl ⟨by rfl, ?_⟩) hHeld ?_ ?_
                    rotate_left
                    · rintro w' ⟨s0, s1, s2, s3, s4, s5, s6, s7, s8, s9⟩
                      go_simp
                      with_reducible rfl
                    rotate_left
                    · simp only [Act.put, List.setIfInBounds_toArray, List.set_cons_zero, List.set_cons_succ, i64_w, i32_w]
                      rfl
                    refine one_ (i := 15) (N := some 40) #[true, true, true, true, true, true, true, true, true, true, true, true, true, true, true, true, true, true, true, false, false, false, false] rfl rfl (one_of HT_.out (by kernel_rfl)) (by decide) (fun K hK => ?_)
                    refine goes_ Try.func60 (by kernel_rfl) rfl #[.agg #[.int .u8 ((rd_T24 l0 a1).f0), .int .u8 ((rd_T24 l0 a1).f1), .int .u8 ((rd_T24 l0 a1).f2), .int .i16 ((rd_T24 l0 a1).f3), .int .i32 ((rd_T24 l0 a1).f4)], .agg #[.int .u8 ((rd_T24 l0 (ji25)).f0), .int .u8 ((rd_T24 l0 (ji25)).f1), .int .u8 ((rd_T24 l0 (ji25)).f2), .int .i16 ((rd_T24 l0 (ji25)).f3), .int .i32 ((rd_T24 l0 (ji25)).f4)]] (by rfl) rfl rfl (by (try simp only [List.map_toArray, List.map_cons, List.map_nil]); first | done | (simp only [hji25]; rfl) | rfl | (simp only [List.length_drop, List.length_take]; rfl)) ?_
                    with_reducible refine (inst_Wide.calls ((rd_T24 l0 a1).f0) ((rd_T24 l0 a1).f1) ((rd_T24 l0 a1).f2) ((rd_T24 l0 a1).f3) ((rd_T24 l0 a1).f4) ((rd_T24 l0 (ji25)).f0) ((rd_T24 l0 (ji25)).f1) ((rd_T24 l0 (ji25)).f2) ((rd_T24 l0 (ji25)).f3) ((rd_T24 l0 (ji25)).f4) t127 _ A28.out).mono ?_
                    rintro e w38 ⟨rfl, hb⟩
                    refine ⟨_, rfl, ?_⟩
                    have n0_ := Aside0.mk (blk_below (g := gb122) (o := .cells #[.int .u8 ((rd_T24 l0 a1).f0), .int .u8 ((rd_T24 l0 a1).f1), .int .u8 ((rd_T24 l0 a1).f2), .int .i16 ((rd_T24 l0 a1).f3), .int .i32 ((rd_T24 l0 a1).f4)] 24 (0, 0)) (by (with_reducible repeat (first | refine blk_drewN ?_ _ | refine blk_drew ?_ | refine blk_alloc ?_ _)); exact BK122.out) hb)
                    have n1_ := Aside0.mk (below_step (by repeat (first | (with_reducible first | exact HB.out | apply below_alloc | apply pw_below_drewN | apply below_drew1 | refine below_set ?_ GE122.out) | exact HB.out)) hb)
                    clear BK122
                    clear HB
                    have BK122 := n0_
                    have HB := n1_
                    clear n0_ n1_
                    (try clear hb)
                    (try clear hb2)
                    (try clear hk)
                    (try clear hi)
                    refine hK.out _ _ ⟨(blk_cell BK122.out 0).trans rfl, (blk_cell BK122.out 1).trans rfl, (blk_cell BK122.out 2).trans rfl, (blk_cell BK122.out 3).trans rfl, (blk_cell BK122.out 4).trans rfl, ((HB.out.cell (World.block_lt_of_cell? w _ hw126_0)).trans hw126_0), ((HB.out.cell (World.block_lt_of_cell? w _ hw126_1)).trans hw126_1), ((HB.out.cell (World.block_lt_of_cell? w _ hw126_2)).trans hw126_2), ((HB.out.cell (World.block_lt_of_cell? w _ hw126_3)).trans hw126_3), ((HB.out.cell (World.block_lt_of_cell? w _ hw126_4)).trans hw126_4)⟩ (fun hHeld => ?_)
                    clear hK K
                    refine norm_ (a' := ?_) ?_ ?_
                    rotate_left
                    · show Act.put _ (some 40) _ = _
                      simp only [Act.put, List.setIfInBounds_toArray, List.set_cons_zero, List.set_cons_succ, i64_w, i32_w]
                      rfl
                    refine pure_ (i := 19) (N := some 44) (v := ?_) (a' := ?_) #[true, true, true, true, true, true, true, true, true, true, true, true, true, true, true, true, true, true, true, true, false, false, false] rfl rfl (any_of HT_.out (by kernel_rfl)) (fun _ _ _ h => h) (Or.inl ⟨by rfl, ?_⟩) ?_ ?_
                    rotate_left
                    · intro w'
                      go_simp
                      with_reducible rfl
                    rotate_left
                    · simp only [Act.put, List.setIfInBounds_toArray, List.set_cons_zero, List.set_cons_succ, i64_w, i32_w]
                      rfl
                    refine pure_ (i := 20) (N := some 45) (v := ?_) (a' := ?_) #[true, true, true, true, true, true, true, true, true, true, true, true, true, true, true, true, true, true, true, true, true, false, false] rfl rfl (any_of HT_.out (by kernel_rfl)) (fun _ _ _ h => h) (Or.inl ⟨by rfl, ?_⟩) ?_ ?_
                    rotate_left
                    · intro w'
                      go_simp
                      with_reducible rfl
                    rotate_left
                    · simp only [Act.put, List.setIfInBounds_toArray, List.set_cons_zero, List.set_cons_succ, i64_w, i32_w]
                      rfl
                    refine pure_ (i := 21) (N := some 46) (v := ?_) (a' := ?_) #[true, true, true, true, true, true, true, true, true, true, true, true, true, true, true, true, true, true, true, true, true, true, false] rfl rfl (any_of HT_.out (by kernel_rfl)) (fun _ _ _ h => h) (Or.inl ⟨by rfl, ?_⟩) ?_ ?_
                    rotate_left
                    · intro w'
                      go_simp
                      with_reducible rfl
                    rotate_left
                    · simp only [Act.put, List.setIfInBounds_toArray, List.set_cons_zero, List.set_cons_succ, i64_w, i32_w]
                      rfl
                    refine pure_ (i := 22) (N := some 6) (v := ?_) (a' := ?_) #[true, true, true, true, true, true, true, true, true, true, true, true, true, true, true, true, true, true, true, true, true, true, true] rfl rfl (any_of HT_.out (by kernel_rfl)) (fun _ _ _ h => h) (Or.inl ⟨by rfl, ?_⟩) ?_ ?_
                    rotate_left
                    · intro w'
                      go_simp
                      with_reducible rfl
                    rotate_left
                    · simp only [Act.put, List.setIfInBounds_toArray, List.set_cons_zero, List.set_cons_succ, i64_w, i32_w]
                      rfl
                    refine done_ (done_of HT_.out (by kernel_rfl)) ?_
                    try go_wp2
                    go_ret
                    exact ⟨by first | rfl | (simp [errW_none, errW_some] <;> rfl) | (simp only [← hji25, ← hji29]; first | rfl | (simp [errW_none, errW_some] <;> rfl)) | (simp [*, errW_none, errW_some] <;> rfl), by repeat (first | (with_reducible first | exact HB.out | apply below_alloc | apply pw_below_drewN | apply below_drew1 | refine below_set ?_ GE122.out) | exact HB.out)⟩
                  · rw [if_neg c27] at H
                    exact absurd H (by simp)
                · rw [if_neg c26] at H
                  exact absurd H (by simp)
            · replace c15 := Bool.eq_false_iff.mpr c15
              subst c15
              have H1 : (some false) = some r := by rw [if_neg (show ¬ (false = true) by decide)] at H; exact H
              clear H
              have H := H1
              clear H1
              obtain rfl := Option.some.inj H
              have p121 : 0 ≤ (a1 : Int) := of_decide_eq_true (by first | (with_reducible assumption) | assumption)
              have q121 : a1 < (l0.length : Int) := of_decide_eq_true (by first | (with_reducible assumption) | assumption)
              obtain ⟨ad121, e121, hx121_0, hx121_1, hx121_2, hx121_3, hx121_4⟩ := at_T24 HR0.out a1 p121 q121
              cases e121
              replace p121 := eq_true p121
              replace q121 := eq_true q121
              go_enter Try.func42, Try.ntmps42
              try go_wp2_with (first | ((with_reducible refine gate_dst (N := 7) rfl ?_); (try (refine gate_guard (by rfl) ?_; dsimp only)); refine box_event ?hg (N := 7) ?hd (cs := #[.int .u8 0, .int .u8 0, .int .u8 0, .int .i16 0, .int .i32 0]) (t := 24) ?hr ?_; (case hd => rfl); (case hg => rfl); (case hr => first | (go_simp; done) | (go_simp; rfl)); intro gb122 hg w39 hbox hb; have n0_ := Aside0.mk (below_step (by repeat (first | (with_reducible first | exact HB.out | apply below_alloc | apply pw_below_drewN | apply below_drew1) | exact HB.out)) hb); have n1_ := Aside0.mk (hbox); have n2_ := Aside0.mk ((by rw [hg]; exact (below_size (by repeat (first | (with_reducible first | exact HB.out | apply below_alloc | apply pw_below_drewN | apply below_drew1) | exact HB.out))) : w.heap.size ≤ gb122)); have n3_ := Aside0.mk ((by rw [hg]; exact (below_size (by repeat (first | (with_reducible first | exact HB.out | apply below_alloc | apply pw_below_drewN | apply below_drew1) | exact HB.out))) : w.heap.size ≤ gb122)); clear HB; have HB := n0_; have BK122 := n1_; have GW122 := n2_; have GE122 := n3_; clear n0_ n1_ n2_ n3_; clear hb hbox hg; have hcz40_0 : w39.cell? ⟨gb122, 0, none⟩ = some (.int .u8 0) := (blk_cell BK122.out 0).trans rfl; have hcz40_1 : w39.cell? ⟨gb122, 1, none⟩ = some (.int .u8 0) := (blk_cell BK122.out 1).trans rfl; have hcz40_2 : w39.cell? ⟨gb122, 2, none⟩ = some (.int .u8 0) := (blk_cell BK122.out 2).trans rfl; have hcz40_3 : w39.cell? ⟨gb122, 3, none⟩ = some (.int .i16 0) := (blk_cell BK122.out 3).trans rfl; have hcz40_4 : w39.cell? ⟨gb122, 4, none⟩ = some (.int .i32 0) := (blk_cell BK122.out 4).trans rfl; have hfz40_0 := blk_frozen BK122.out 0; have hfz40_1 := blk_frozen BK122.out 1; have hfz40_2 := blk_frozen BK122.out 2; have hfz40_3 := blk_frozen BK122.out 3; have hfz40_4 := blk_frozen BK122.out 4) | ((with_reducible refine gate_callee (f := 17) rfl ?_); refine goesL_ (some 16) rfl rfl Try.func17 (by kernel_rfl) rfl #[.slice (some ad121) l0.length c0, .int .i64 a1] rfl (by (try simp only [List.map_toArray, List.map_cons, List.map_nil]); first | done | rfl | (simp only [List.length_drop, List.length_take]; rfl)) ?_; (with_reducible refine (isa_Second.calls k _ _ l0 a1 false _ ?side1 ?side2 A6.out).mono ?_); (case side1 => exact Kd.C_below HR0.out (by repeat (first | (with_reducible first | exact HB.out | apply below_alloc | apply pw_below_drewN | apply below_drew1 | refine below_set ?_ GE122.out) | exact HB.out))); (case side2 => exact HC0.out); rintro e w41 ⟨rfl, hb⟩; refine ⟨_, rfl, ?_⟩; have n0_ := Aside0.mk (blk_below (g := gb122) (o := .cells #[.int .u8 ((rd_T24 l0 a1).f0), .int .u8 ((rd_T24 l0 a1).f1), .int .u8 ((rd_T24 l0 a1).f2), .int .i16 ((rd_T24 l0 a1).f3), .int .i32 ((rd_T24 l0 a1).f4)] 24 (0, 0)) (by (with_reducible repeat (first | refine blk_drewN ?_ _ | refine blk_drew ?_ | refine blk_alloc ?_ _)); refine blk_put (cs := #[.int .u8 ((rd_T24 l0 a1).f0), .int .u8 ((rd_T24 l0 a1).f1), .int .u8 ((rd_T24 l0 a1).f2), .int .i16 ((rd_T24 l0 a1).f3), .int .i32 0]) ?_ 4 _ rfl; (with_reducible repeat (first | refine blk_drewN ?_ _ | refine blk_drew ?_ | refine blk_alloc ?_ _)); refine blk_put (cs := #[.int .u8 ((rd_T24 l0 a1).f0), .int .u8 ((rd_T24 l0 a1).f1), .int .u8 ((rd_T24 l0 a1).f2), .int .i16 0, .int .i32 0]) ?_ 3 _ rfl; (with_reducible repeat (first | refine blk_drewN ?_ _ | refine blk_drew ?_ | refine blk_alloc ?_ _)); refine blk_put (cs := #[.int .u8 ((rd_T24 l0 a1).f0), .int .u8 ((rd_T24 l0 a1).f1), .int .u8 0, .int .i16 0, .int .i32 0]) ?_ 2 _ rfl; (with_reducible repeat (first | refine blk_drewN ?_ _ | refine blk_drew ?_ | refine blk_alloc ?_ _)); refine blk_put (cs := #[.int .u8 ((rd_T24 l0 a1).f0), .int .u8 0, .int .u8 0, .int .i16 0, .int .i32 0]) ?_ 1 _ rfl; (with_reducible repeat (first | refine blk_drewN ?_ _ | refine blk_drew ?_ | refine blk_alloc ?_ _)); refine blk_put (cs := #[.int .u8 0, .int .u8 0, .int .u8 0, .int .i16 0, .int .i32 0]) ?_ 0 _ rfl; (with_reducible repeat (first | refine blk_drewN ?_ _ | refine blk_drew ?_ | refine blk_alloc ?_ _)); exact BK122.out) hb); have n1_ := Aside0.mk (below_step (by repeat (first | (with_reducible first | exact HB.out | apply below_alloc | apply pw_below_drewN | apply below_drew1 | refine below_set ?_ GE122.out) | exact HB.out)) hb); clear BK122; clear HB; have BK122 := n0_; have HB := n1_; clear n0_ n1_; (try clear hb); (try clear hb2); (try clear hk); (try clear hi); have hcz42_0 : w41.cell? ⟨gb122, 0, none⟩ = some (.int .u8 ((rd_T24 l0 a1).f0)) := (blk_cell BK122.out 0).trans rfl; have hcz42_1 : w41.cell? ⟨gb122, 1, none⟩ = some (.int .u8 ((rd_T24 l0 a1).f1)) := (blk_cell BK122.out 1).trans rfl; have hcz42_2 : w41.cell? ⟨gb122, 2, none⟩ = some (.int .u8 ((rd_T24 l0 a1).f2)) := (blk_cell BK122.out 2).trans rfl; have hcz42_3 : w41.cell? ⟨gb122, 3, none⟩ = some (.int .i16 ((rd_T24 l0 a1).f3)) := (blk_cell BK122.out 3).trans rfl; have hcz42_4 : w41.cell? ⟨gb122, 4, none⟩ = some (.int .i32 ((rd_T24 l0 a1).f4)) := (blk_cell BK122.out 4).trans rfl; have hfz42_0 := blk_frozen BK122.out 0; have hfz42_1 := blk_frozen BK122.out 1; have hfz42_2 := blk_frozen BK122.out 2; have hfz42_3 := blk_frozen BK122.out 3; have hfz42_4 := blk_frozen BK122.out 4) | ((with_reducible refine gate_callee (f := 10) rfl ?_); refine goesL_ (some 19) rfl rfl Try.func10 (by kernel_rfl) rfl #[.agg #[.int .u8 ((rd_T24 l0 a1).f0), .int .u8 ((rd_T24 l0 a1).f1), .int .u8 ((rd_T24 l0 a1).f2), .int .i16 ((rd_T24 l0 a1).f3), .int .i32 ((rd_T24 l0 a1).f4)]] rfl (by (try simp only [List.map_toArray, List.map_cons, List.map_nil]); first | done | rfl | (simp only [List.length_drop, List.length_take]; rfl)) ?_; (with_reducible refine (isa_Right.calls k ((rd_T24 l0 a1).f0) ((rd_T24 l0 a1).f1) ((rd_T24 l0 a1).f2) ((rd_T24 l0 a1).f3) ((rd_T24 l0 a1).f4) true _ A11.out).mono ?_); rintro e w43 ⟨rfl, hb⟩; refine ⟨_, rfl, ?_⟩; have n0_ := Aside0.mk (blk_below (g := gb122) (o := .cells #[.int .u8 ((rd_T24 l0 a1).f0), .int .u8 ((rd_T24 l0 a1).f1), .int .u8 ((rd_T24 l0 a1).f2), .int .i16 ((rd_T24 l0 a1).f3), .int .i32 ((rd_T24 l0 a1).f4)] 24 (0, 0)) (by (with_reducible repeat (first | refine blk_drewN ?_ _ | refine blk_drew ?_ | refine blk_alloc ?_ _)); exact BK122.out) hb); have n1_ := Aside0.mk (below_step (by repeat (first | (with_reducible first | exact HB.out | apply below_alloc | apply pw_below_drewN | apply below_drew1 | refine below_set ?_ GE122.out) | exact HB.out)) hb); clear BK122; clear HB; have BK122 := n0_; have HB := n1_; clear n0_ n1_; (try clear hb); (try clear hb2); (try clear hk); (try clear hi); have hcz44_0 : w43.cell? ⟨gb122, 0, none⟩ = some (.int .u8 ((rd_T24 l0 a1).f0)) := (blk_cell BK122.out 0).trans rfl; have hcz44_1 : w43.cell? ⟨gb122, 1, none⟩ = some (.int .u8 ((rd_T24 l0 a1).f1)) := (blk_cell BK122.out 1).trans rfl; have hcz44_2 : w43.cell? ⟨gb122, 2, none⟩ = some (.int .u8 ((rd_T24 l0 a1).f2)) := (blk_cell BK122.out 2).trans rfl; have hcz44_3 : w43.cell? ⟨gb122, 3, none⟩ = some (.int .i16 ((rd_T24 l0 a1).f3)) := (blk_cell BK122.out 3).trans rfl; have hcz44_4 : w43.cell? ⟨gb122, 4, none⟩ = some (.int .i32 ((rd_T24 l0 a1).f4)) := (blk_cell BK122.out 4).trans rfl; have hfz44_0 := blk_frozen BK122.out 0; have hfz44_1 := blk_frozen BK122.out 1; have hfz44_2 := blk_frozen BK122.out 2; have hfz44_3 := blk_frozen BK122.out 3; have hfz44_4 := blk_frozen BK122.out 4))
              have n0_ := Aside0.mk (blk_drew BK122.out)
              have n1_ := Aside0.mk (below_drew1 HB.out)
              clear BK122
              clear HB
              have BK122 := n0_
              have HB := n1_
              clear n0_ n1_
              refine start_ (n := 23) (S := fun w' => True) (ds := []) #[false, false, false, false, false, false, false, false, false, false, false, false, false, false, false, false, false, false, false, false, false, false, false] (by kernel_rfl) rfl rfl trivial (fun hHeld => ?_); refine with_tabW isa_good.tab7 isa_good.bits7 (fun HT_ HW_ => ?_)
              generalize w43.drew = w45 at BK122 HB hHeld ⊢
              refine pure_ (i := 0) (N := some 25) (v := ?_) (a' := ?_) #[true, false, false, false, false, false, false, false, false, false, false, false, false, false, false, false, false, false, false, false, false, false, false] rfl rfl (any_of HT_.out (by kernel_rfl)) (fun _ _ _ h => h) (Or.inl ⟨by rfl, ?_⟩) ?_ ?_
              rotate_left
              · intro w'
                go_simp
                with_reducible rfl
              rotate_left
              · simp only [Act.put, List.setIfInBounds_toArray, List.set_cons_zero, List.set_cons_succ, i64_w, i32_w]
                rfl
              refine pure_ (i := 1) (N := some 26) (v := ?_) (a' := ?_) #[true, true, false, false, false, false, false, false, false, false, false, false, false, false, false, false, false, false, false, false, false, false, false] rfl rfl (any_of HT_.out (by kernel_rfl)) (fun _ _ _ h => h) (Or.inl ⟨by rfl, ?_⟩) ?_ ?_
              rotate_left
              · intro w'
                go_simp
                with_reducible rfl
              rotate_left
              · simp only [Act.put, List.setIfInBounds_toArray, List.set_cons_zero, List.set_cons_succ, i64_w, i32_w]
                rfl
              refine pure_ (i := 2) (N := some 27) (v := ?_) (a' := ?_) #[true, true, true, false, false, false, false, false, false, false, false, false, false, false, false, false, false, false, false, false, false, false, false] rfl rfl (any_of HT_.out (by kernel_rfl)) (fun _ _ _ h => h) (Or.inl ⟨by rfl, ?_⟩) ?_ ?_
              rotate_left
              · intro w'
                go_simp
                with_reducible rfl
              rotate_left
              · simp only [Act.put, List.setIfInBounds_toArray, List.set_cons_zero, List.set_cons_succ, i64_w, i32_w]
                rfl
              refine one_ (i := 3) (N := some 28) #[true, true, true, true, false, false, false, false, false, false, false, false, false, false, false, false, false, false, false, false, false, false, false] rfl rfl (one_of HT_.out (by kernel_rfl)) (by decide) (fun K hK => ?_)
              refine goes_ Try.func17 (by kernel_rfl) rfl #[.slice (some ad121) l0.length c0, .int .i64 (wrap64 (a1 + 1))] (by rfl) rfl rfl (by (try simp only [List.map_toArray, List.map_cons, List.map_nil]); first | done | rfl | (simp only [List.length_drop, List.length_take]; rfl)) ?_
              with_reducible refine (isa_Second.calls k _ _ l0 (wrap64 (a1 + 1)) false _ ?side1 ?side2 A14.out).mono ?_
              (case side1 => repeat (first | exact (Kd.C_below HR0.out HB.out) | (with_reducible refine Kd.C_alloc ?_ _) | (with_reducible refine Kd.C_drewN ?_ _) | (with_reducible refine Kd.C_drew ?_)))
              (case side2 => exact HC0.out)
              rintro e w46 ⟨rfl, hb⟩
              refine ⟨_, rfl, ?_⟩
              have n0_ := Aside0.mk (blk_below (g := gb122) (o := .cells #[.int .u8 ((rd_T24 l0 a1).f0), .int .u8 ((rd_T24 l0 a1).f1), .int .u8 ((rd_T24 l0 a1).f2), .int .i16 ((rd_T24 l0 a1).f3), .int .i32 ((rd_T24 l0 a1).f4)] 24 (0, 0)) (by (with_reducible repeat (first | refine blk_drewN ?_ _ | refine blk_drew ?_ | refine blk_alloc ?_ _)); exact BK122.out) hb)
              have n1_ := Aside0.mk (below_step (by repeat (first | (with_reducible first | exact HB.out | apply below_alloc | apply pw_below_drewN | apply below_drew1 | refine below_set ?_ GE122.out) | exact HB.out)) hb)
              clear BK122
              clear HB
              have BK122 := n0_
              have HB := n1_
              clear n0_ n1_
              (try clear hb)
              (try clear hb2)
              (try clear hk)
              (try clear hi)
              refine hK.out _ _ trivial (fun hHeld => ?_)
              clear hK K
              refine norm_ (a' := ?_) ?_ ?_
              rotate_left
              · show Act.put _ (some 28) _ = _
                simp only [Act.put, List.setIfInBounds_toArray, List.set_cons_zero, List.set_cons_succ, i64_w, i32_w]
                rfl
              refine pure_ (i := 4) (N := some 29) (v := ?_) (a' := ?_) #[true, true, true, true, true, false, false, false, false, false, false, false, false, false, false, false, false, false, false, false, false, false, false] rfl rfl (any_of HT_.out (by kernel_rfl)) (fun _ _ _ h => h) (Or.inl ⟨by rfl, ?_⟩) ?_ ?_
              rotate_left
              · intro w'
                go_simp
                with_reducible rfl
              rotate_left
              · simp only [Act.put, List.setIfInBounds_toArray, List.set_cons_zero, List.set_cons_succ, i64_w, i32_w]
                rfl
              refine pure_ (i := 5) (N := some 30) (v := undef) (a' := ?_) #[true, true, true, true, true, true, false, false, false, false, false, false, false, false, false, false, false, false, false, false, false, false, false] rfl rfl (any_of HT_.out (by kernel_rfl)) (fun _ _ _ h => h) (Or.inr ⟨by rfl, rfl⟩) ?_ ?_
              rotate_left
              · simp only [Act.put, List.setIfInBounds_toArray, List.set_cons_zero, List.set_cons_succ, i64_w, i32_w]
                rfl
              refine pure_ (i := 6) (N := some 31) (v := undef) (a' := ?_) #[true, true, true, true, true, true, true, false, false, false, false, false, false, false, false, false, false, false, false, false, false, false, false] rfl rfl (any_of HT_.out (by kernel_rfl)) (fun _ _ _ h => h) (Or.inr ⟨by rfl, rfl⟩) ?_ ?_
              rotate_left
              · simp only [Act.put, List.setIfInBounds_toArray, List.set_cons_zero, List.set_cons_succ, i64_w, i32_w]
                rfl
              refine pure_ (i := 7) (N := some 32) (v := undef) (a' := ?_) #[true, true, true, true, true, true, true, true, false, false, false, false, false, false, false, false, false, false, false, false, false, false, false] rfl rfl (any_of HT_.out (by kernel_rfl)) (fun _ _ _ h => h) (Or.inr ⟨by rfl, rfl⟩) ?_ ?_
              rotate_left
              · simp only [Act.put, List.setIfInBounds_toArray, List.set_cons_zero, List.set_cons_succ, i64_w, i32_w]
                rfl
              refine pure_ (i := 8) (N := some 33) (v := undef) (a' := ?_) #[true, true, true, true, true, true, true, true, true, false, false, false, false, false, false, false, false, false, false, false, false, false, false] rfl rfl (any_of HT_.out (by kernel_rfl)) (fun _ _ _ h => h) (Or.inr ⟨by rfl, rfl⟩) ?_ ?_
              rotate_left
              · simp only [Act.put, List.setIfInBounds_toArray, List.set_cons_zero, List.set_cons_succ, i64_w, i32_w]
                rfl
              refine pure_ (i := 9) (N := some 34) (v := undef) (a' := ?_) #[true, true, true, true, true, true, true, true, true, true, false, false, false, false, false, false, false, false, false, false, false, false, false] rfl rfl (any_of HT_.out (by kernel_rfl)) (fun _ _ _ h => h) (Or.inr ⟨by rfl, rfl⟩) ?_ ?_
              rotate_left
              · simp only [Act.put, List.setIfInBounds_toArray, List.set_cons_zero, List.set_cons_succ, i64_w, i32_w]
                rfl
              refine pure_ (i := 10) (N := some 35) (v := undef) (a' := ?_) #[true, true, true, true, true, true, true, true, true, true, true, false, false, false, false, false, false, false, false, false, false, false, false] rfl rfl (any_of HT_.out (by kernel_rfl)) (fun _ _ _ h => h) (Or.inr ⟨by rfl, rfl⟩) ?_ ?_
              rotate_left
              · simp only [Act.put, List.setIfInBounds_toArray, List.set_cons_zero, List.set_cons_succ, i64_w, i32_w]
                rfl
              refine pure_ (i := 11) (N := some 36) (v := undef) (a' := ?_) #[true, true, true, true, true, true, true, true, true, true, true, true, false, false, false, false, false, false, false, false, false, false, false] rfl rfl (any_of HT_.out (by kernel_rfl)) (fun _ _ _ h => h) (Or.inr ⟨by rfl, rfl⟩) ?_ ?_
              rotate_left
              · simp only [Act.put, List.setIfInBounds_toArray, List.set_cons_zero, List.set_cons_succ, i64_w, i32_w]
                rfl
              refine pure_ (i := 12) (N := some 37) (v := undef) (a' := ?_) #[true, true, true, true, true, true, true, true, true, true, true, true, true, false, false, false, false, false, false, false, false, false, false] rfl rfl (any_of HT_.out (by kernel_rfl)) (fun _ _ _ h => h) (Or.inr ⟨by rfl, rfl⟩) ?_ ?_
              rotate_left
              · simp only [Act.put, List.setIfInBounds_toArray, List.set_cons_zero, List.set_cons_succ, i64_w, i32_w]
                rfl
              refine pure_ (i := 13) (N := some 38) (v := undef) (a' := ?_) #[true, true, true, true, true, true, true, true, true, true, true, true, true, true, false, false, false, false, false, false, false, false, false] rfl rfl (any_of HT_.out (by kernel_rfl)) (fun _ _ _ h => h) (Or.inr ⟨by rfl, rfl⟩) ?_ ?_
              rotate_left
              · simp only [Act.put, List.setIfInBounds_toArray, List.set_cons_zero, List.set_cons_succ, i64_w, i32_w]
                rfl
              refine pure_ (i := 14) (N := some 39) (v := undef) (a' := ?_) #[true, true, true, true, true, true, true, true, true, true, true, true, true, true, true, false, false, false, false, false, false, false, false] rfl rfl (any_of HT_.out (by kernel_rfl)) (fun _ _ _ h => h) (Or.inr ⟨by rfl, rfl⟩) ?_ ?_
              rotate_left
              · simp only [Act.put, List.setIfInBounds_toArray, List.set_cons_zero, List.set_cons_succ, i64_w, i32_w]
                rfl
              refine pure_ (i := 15) (N := some 40) (v := undef) (a' := ?_) #[true, true, true, true, true, true, true, true, true, true, true, true, true, true, true, true, false, false, false, false, false, false, false] rfl rfl (any_of HT_.out (by kernel_rfl)) (fun _ _ _ h => h) (Or.inr ⟨by rfl, rfl⟩) ?_ ?_
              rotate_left
              · simp only [Act.put, List.setIfInBounds_toArray, List.set_cons_zero, List.set_cons_succ, i64_w, i32_w]
                rfl
              refine pure_ (i := 16) (N := some 41) (v := undef) (a' := ?_) #[true, true, true, true, true, true, true, true, true, true, true, true, true, true, true, true, true, false, false, false, false, false, false] rfl rfl (any_of HT_.out (by kernel_rfl)) (fun _ _ _ h => h) (Or.inr ⟨by rfl, rfl⟩) ?_ ?_
              rotate_left
              · simp only [Act.put, List.setIfInBounds_toArray, List.set_cons_zero, List.set_cons_succ, i64_w, i32_w]
                rfl
              refine pure_ (i := 17) (N := some 42) (v := undef) (a' := ?_) #[true, true, true, true, true, true, true, true, true, true, true, true, true, true, true, true, true, true, false, false, false, false, false] rfl rfl (any_of HT_.out (by kernel_rfl)) (fun _ _ _ h => h) (Or.inr ⟨by rfl, rfl⟩) ?_ ?_
              rotate_left
              · simp only [Act.put, List.setIfInBounds_toArray, List.set_cons_zero, List.set_cons_succ, i64_w, i32_w]
                rfl
              refine pure_ (i := 18) (N := some 43) (v := undef) (a' := ?_) #[true, true, true, true, true, true, true, true, true, true, true, true, true, true, true, true, true, true, true, false, false, false, false] rfl rfl (any_of HT_.out (by kernel_rfl)) (fun _ _ _ h => h) (Or.inr ⟨by rfl, rfl⟩) ?_ ?_
              rotate_left
              · simp only [Act.put, List.setIfInBounds_toArray, List.set_cons_zero, List.set_cons_succ, i64_w, i32_w]
                rfl
              refine pure_ (i := 19) (N := some 44) (v := undef) (a' := ?_) #[true, true, true, true, true, true, true, true, true, true, true, true, true, true, true, true, true, true, true, true, false, false, false] rfl rfl (any_of HT_.out (by kernel_rfl)) (fun _ _ _ h => h) (Or.inr ⟨by rfl, rfl⟩) ?_ ?_
              rotate_left
              · simp only [Act.put, List.setIfInBounds_toArray, List.set_cons_zero, List.set_cons_succ, i64_w, i32_w]
                rfl
              refine pure_ (i := 20) (N := some 45) (v := undef) (a' := ?_) #[true, true, true, true, true, true, true, true, true, true, true, true, true, true, true, true, true, true, true, true, true, false, false] rfl rfl (any_of HT_.out (by kernel_rfl)) (fun _ _ _ h => h) (Or.inr ⟨by rfl, rfl⟩) ?_ ?_
              rotate_left
              · simp only [Act.put, List.setIfInBounds_toArray, List.set_cons_zero, List.set_cons_succ, i64_w, i32_w]
                rfl
              refine pure_ (i := 21) (N := some 46) (v := ?_) (a' := ?_) #[true, true, true, true, true, true, true, true, true, true, true, true, true, true, true, true, true, true, true, true, true, true, false] rfl rfl (any_of HT_.out (by kernel_rfl)) (fun _ _ _ h => h) (Or.inl ⟨by rfl, ?_⟩) ?_ ?_
              rotate_left
              · intro w'
                go_simp
                with_reducible rfl
              rotate_left
              · simp only [Act.put, List.setIfInBounds_toArray, List.set_cons_zero, List.set_cons_succ, i64_w, i32_w]
                rfl
              refine pure_ (i := 22) (N := some 6) (v := ?_) (a' := ?_) #[true, true, true, true, true, true, true, true, true, true, true, true, true, true, true, true, true, true, true, true, true, true, true] rfl rfl (any_of HT_.out (by kernel_rfl)) (fun _ _ _ h => h) (Or.inl ⟨by rfl, ?_⟩) ?_ ?_
              rotate_left
              · intro w'
                go_simp
                with_reducible rfl
              rotate_left
              · simp only [Act.put, List.setIfInBounds_toArray, List.set_cons_zero, List.set_cons_succ, i64_w, i32_w]
                rfl
              refine done_ (done_of HT_.out (by kernel_rfl)) ?_
              try go_wp2
              go_ret
              exact ⟨by first | rfl | (simp [errW_none, errW_some] <;> rfl) | (simp [*, errW_none, errW_some] <;> rfl), by repeat (first | (with_reducible first | exact HB.out | apply below_alloc | apply pw_below_drewN | apply below_drew1 | refine below_set ?_ GE122.out) | exact HB.out)⟩
          · rw [if_neg c13] at H
            have c13b0 : (((rd_T24 l0 a1).f0) == 24) = false := beq_eq_false_iff_ne.mpr c13
            have c13b1 : (((rd_T24 l0 a1).f0) != 24) = true := bne_iff_ne.mpr c13
            replace H := Option.bind_eq_some_iff.mp H
            obtain ⟨t128, A470, H⟩ := H
            replace H : (if t128 = true then (if ((rd_T24 l0 a1).f3) ≥ 0 then (if (wrap64 ((wrap64 (a1 + 1)) + (wrap64 ((rd_T24 l0 a1).f3)))) < (l0.length : Int) then ((isa_Second.f k l0 (wrap64 ((wrap64 (a1 + 1)) + (wrap64 ((rd_T24 l0 a1).f3))))).bind fun t129 => (some (!t129))) else (some false)) else (some false)) else (some true)) = some r := H
            have A47 := Aside0.mk A470
            clear A470
            by_cases c48 : t128 = true
            · subst c48
              have H1 : (if ((rd_T24 l0 a1).f3) ≥ 0 then (if (wrap64 ((wrap64 (a1 + 1)) + (wrap64 ((rd_T24 l0 a1).f3)))) < (l0.length : Int) then ((isa_Second.f k l0 (wrap64 ((wrap64 (a1 + 1)) + (wrap64 ((rd_T24 l0 a1).f3))))).bind fun t129 => (some (!t129))) else (some false)) else (some false)) = some r := by rw [if_pos rfl] at H; exact H
              clear H
              have H := H1
              clear H1
              by_cases c49 : ((rd_T24 l0 a1).f3) ≥ 0
              · rw [if_pos c49] at H
                have c49b0 : decide (0 ≤ ((rd_T24 l0 a1).f3)) = true := decide_eq_true c49
                clear c49
                by_cases c50 : (wrap64 ((wrap64 (a1 + 1)) + (wrap64 ((rd_T24 l0 a1).f3)))) < (l0.length : Int)
                · rw [if_pos c50] at H
                  have c50b0 : decide ((wrap64 ((wrap64 (a1 + 1)) + (wrap64 ((rd_T24 l0 a1).f3)))) < (l0.length : Int)) = true := decide_eq_true c50
                  clear c50
                  replace H := Option.bind_eq_some_iff.mp H
                  obtain ⟨t129, A510, H⟩ := H
                  replace H : (some (!t129)) = some r := H
                  have A51 := Aside0.mk A510
                  clear A510
                  obtain rfl := Option.some.inj H
                  have p121 : 0 ≤ (a1 : Int) := of_decide_eq_true (by first | (with_reducible assumption) | assumption)
                  have q121 : a1 < (l0.length : Int) := of_decide_eq_true (by first | (with_reducible assumption) | assumption)
                  obtain ⟨ad121, e121, hx121_0, hx121_1, hx121_2, hx121_3, hx121_4⟩ := at_T24 HR0.out a1 p121 q121
                  cases e121
                  replace p121 := eq_true p121
                  replace q121 := eq_true q121
                  go_enter Try.func42, Try.ntmps42
                  go_wp2_with (first | ((with_reducible refine gate_dst (N := 7) rfl ?_); (try (refine gate_guard (by rfl) ?_; dsimp only)); refine box_event ?hg (N := 7) ?hd (cs := #[.int .u8 0, .int .u8 0, .int .u8 0, .int .i16 0, .int .i32 0]) (t := 24) ?hr ?_; (case hd => rfl); (case hg => rfl); (case hr => first | (go_simp; done) | (go_simp; rfl)); intro gb122 hg w52 hbox hb; have n0_ := Aside0.mk (below_step (by repeat (first | (with_reducible first | exact HB.out | apply below_alloc | apply pw_below_drewN | apply below_drew1) | exact HB.out)) hb); have n1_ := Aside0.mk (hbox); have n2_ := Aside0.mk ((by rw [hg]; exact (below_size (by repeat (first | (with_reducible first | exact HB.out | apply below_alloc | apply pw_below_drewN | apply below_drew1) | exact HB.out))) : w.heap.size ≤ gb122)); have n3_ := Aside0.mk ((by rw [hg]; exact (below_size (by repeat (first | (with_reducible first | exact HB.out | apply below_alloc | apply pw_below_drewN | apply below_drew1) | exact HB.out))) : w.heap.size ≤ gb122)); clear HB; have HB := n0_; have BK122 := n1_; have GW122 := n2_; have GE122 := n3_; clear n0_ n1_ n2_ n3_; clear hb hbox hg; have hcz53_0 : w52.cell? ⟨gb122, 0, none⟩ = some (.int .u8 0) := (blk_cell BK122.out 0).trans rfl; have hcz53_1 : w52.cell? ⟨gb122, 1, none⟩ = some (.int .u8 0) := (blk_cell BK122.out 1).trans rfl; have hcz53_2 : w52.cell? ⟨gb122, 2, none⟩ = some (.int .u8 0) := (blk_cell BK122.out 2).trans rfl; have hcz53_3 : w52.cell? ⟨gb122, 3, none⟩ = some (.int .i16 0) := (blk_cell BK122.out 3).trans rfl; have hcz53_4 : w52.cell? ⟨gb122, 4, none⟩ = some (.int .i32 0) := (blk_cell BK122.out 4).trans rfl; have hfz53_0 := blk_frozen BK122.out 0; have hfz53_1 := blk_frozen BK122.out 1; have hfz53_2 := blk_frozen BK122.out 2; have hfz53_3 := blk_frozen BK122.out 3; have hfz53_4 := blk_frozen BK122.out 4) | ((with_reducible refine gate_callee (f := 17) rfl ?_); refine goesL_ (some 16) rfl rfl Try.func17 (by kernel_rfl) rfl #[.slice (some ad121) l0.length c0, .int .i64 a1] rfl (by (try simp only [List.map_toArray, List.map_cons, List.map_nil]); first | done | rfl | (simp only [List.length_drop, List.length_take]; rfl)) ?_; (with_reducible refine (isa_Second.calls k _ _ l0 a1 false _ ?side1 ?side2 A6.out).mono ?_); (case side1 => exact Kd.C_below HR0.out (by repeat (first | (with_reducible first | exact HB.out | apply below_alloc | apply pw_below_drewN | apply below_drew1 | refine below_set ?_ GE122.out) | exact HB.out))); (case side2 => exact HC0.out); rintro e w54 ⟨rfl, hb⟩; refine ⟨_, rfl, ?_⟩; have n0_ := Aside0.mk (blk_below (g := gb122) (o := .cells #[.int .u8 ((rd_T24 l0 a1).f0), .int .u8 ((rd_T24 l0 a1).f1), .int .u8 ((rd_T24 l0 a1).f2), .int .i16 ((rd_T24 l0 a1).f3), .int .i32 ((rd_T24 l0 a1).f4)] 24 (0, 0)) (by (with_reducible repeat (first | refine blk_drewN ?_ _ | refine blk_drew ?_ | refine blk_alloc ?_ _)); refine blk_put (cs := #[.int .u8 ((rd_T24 l0 a1).f0), .int .u8 ((rd_T24 l0 a1).f1), .int .u8 ((rd_T24 l0 a1).f2), .int .i16 ((rd_T24 l0 a1).f3), .int .i32 0]) ?_ 4 _ rfl; (with_reducible repeat (first | refine blk_drewN ?_ _ | refine blk_drew ?_ | refine blk_alloc ?_ _)); refine blk_put (cs := #[.int .u8 ((rd_T24 l0 a1).f0), .int .u8 ((rd_T24 l0 a1).f1), .int .u8 ((rd_T24 l0 a1).f2), .int .i16 0, .int .i32 0]) ?_ 3 _ rfl; (with_reducible repeat (first | refine blk_drewN ?_ _ | refine blk_drew ?_ | refine blk_alloc ?_ _)); refine blk_put (cs := #[.int .u8 ((rd_T24 l0 a1).f0), .int .u8 ((rd_T24 l0 a1).f1), .int .u8 0, .int .i16 0, .int .i32 0]) ?_ 2 _ rfl; (with_reducible repeat (first | refine blk_drewN ?_ _ | refine blk_drew ?_ | refine blk_alloc ?_ _)); refine blk_put (cs := #[.int .u8 ((rd_T24 l0 a1).f0), .int .u8 0, .int .u8 0, .int .i16 0, .int .i32 0]) ?_ 1 _ rfl; (with_reducible repeat (first | refine blk_drewN ?_ _ | refine blk_drew ?_ | refine blk_alloc ?_ _)); refine blk_put (cs := #[.int .u8 0, .int .u8 0, .int .u8 0, .int .i16 0, .int .i32 0]) ?_ 0 _ rfl; (with_reducible repeat (first | refine blk_drewN ?_ _ | refine blk_drew ?_ | refine blk_alloc ?_ _)); exact BK122.out) hb); have n1_ := Aside0.mk (below_step (by repeat (first | (with_reducible first | exact HB.out | apply below_alloc | apply pw_below_drewN | apply below_drew1 | refine below_set ?_ GE122.out) | exact HB.out)) hb); clear BK122; clear HB; have BK122 := n0_; have HB := n1_; clear n0_ n1_; (try clear hb); (try clear hb2); (try clear hk); (try clear hi); have hcz55_0 : w54.cell? ⟨gb122, 0, none⟩ = some (.int .u8 ((rd_T24 l0 a1).f0)) := (blk_cell BK122.out 0).trans rfl; have hcz55_1 : w54.cell? ⟨gb122, 1, none⟩ = some (.int .u8 ((rd_T24 l0 a1).f1)) := (blk_cell BK122.out 1).trans rfl; have hcz55_2 : w54.cell? ⟨gb122, 2, none⟩ = some (.int .u8 ((rd_T24 l0 a1).f2)) := (blk_cell BK122.out 2).trans rfl; have hcz55_3 : w54.cell? ⟨gb122, 3, none⟩ = some (.int .i16 ((rd_T24 l0 a1).f3)) := (blk_cell BK122.out 3).trans rfl; have hcz55_4 : w54.cell? ⟨gb122, 4, none⟩ = some (.int .i32 ((rd_T24 l0 a1).f4)) := (blk_cell BK122.out 4).trans rfl; have hfz55_0 := blk_frozen BK122.out 0; have hfz55_1 := blk_frozen BK122.out 1; have hfz55_2 := blk_frozen BK122.out 2; have hfz55_3 := blk_frozen BK122.out 3; have hfz55_4 := blk_frozen BK122.out 4) | ((with_reducible refine gate_callee (f := 10) rfl ?_); refine goesL_ (some 19) rfl rfl Try.func10 (by kernel_rfl) rfl #[.agg #[.int .u8 ((rd_T24 l0 a1).f0), .int .u8 ((rd_T24 l0 a1).f1), .int .u8 ((rd_T24 l0 a1).f2), .int .i16 ((rd_T24 l0 a1).f3), .int .i32 ((rd_T24 l0 a1).f4)]] rfl (by (try simp only [List.map_toArray, List.map_cons, List.map_nil]); first | done | rfl | (simp only [List.length_drop, List.length_take]; rfl)) ?_; (with_reducible refine (isa_Right.calls k ((rd_T24 l0 a1).f0) ((rd_T24 l0 a1).f1) ((rd_T24 l0 a1).f2) ((rd_T24 l0 a1).f3) ((rd_T24 l0 a1).f4) true _ A11.out).mono ?_); rintro e w56 ⟨rfl, hb⟩; refine ⟨_, rfl, ?_⟩; have n0_ := Aside0.mk (blk_below (g := gb122) (o := .cells #[.int .u8 ((rd_T24 l0 a1).f0), .int .u8 ((rd_T24 l0 a1).f1), .int .u8 ((rd_T24 l0 a1).f2), .int .i16 ((rd_T24 l0 a1).f3), .int .i32 ((rd_T24 l0 a1).f4)] 24 (0, 0)) (by (with_reducible repeat (first | refine blk_drewN ?_ _ | refine blk_drew ?_ | refine blk_alloc ?_ _)); exact BK122.out) hb); have n1_ := Aside0.mk (below_step (by repeat (first | (with_reducible first | exact HB.out | apply below_alloc | apply pw_below_drewN | apply below_drew1 | refine below_set ?_ GE122.out) | exact HB.out)) hb); clear BK122; clear HB; have BK122 := n0_; have HB := n1_; clear n0_ n1_; (try clear hb); (try clear hb2); (try clear hk); (try clear hi); have hcz57_0 : w56.cell? ⟨gb122, 0, none⟩ = some (.int .u8 ((rd_T24 l0 a1).f0)) := (blk_cell BK122.out 0).trans rfl; have hcz57_1 : w56.cell? ⟨gb122, 1, none⟩ = some (.int .u8 ((rd_T24 l0 a1).f1)) := (blk_cell BK122.out 1).trans rfl; have hcz57_2 : w56.cell? ⟨gb122, 2, none⟩ = some (.int .u8 ((rd_T24 l0 a1).f2)) := (blk_cell BK122.out 2).trans rfl; have hcz57_3 : w56.cell? ⟨gb122, 3, none⟩ = some (.int .i16 ((rd_T24 l0 a1).f3)) := (blk_cell BK122.out 3).trans rfl; have hcz57_4 : w56.cell? ⟨gb122, 4, none⟩ = some (.int .i32 ((rd_T24 l0 a1).f4)) := (blk_cell BK122.out 4).trans rfl; have hfz57_0 := blk_frozen BK122.out 0; have hfz57_1 := blk_frozen BK122.out 1; have hfz57_2 := blk_frozen BK122.out 2; have hfz57_3 := blk_frozen BK122.out 3; have hfz57_4 := blk_frozen BK122.out 4) | ((with_reducible refine gate_callee (f := 14) rfl ?_); refine goesL_ (some 49) rfl rfl Try.func14 (by kernel_rfl) rfl #[.agg #[.int .u8 ((rd_T24 l0 a1).f0), .int .u8 ((rd_T24 l0 a1).f1), .int .u8 ((rd_T24 l0 a1).f2), .int .i16 ((rd_T24 l0 a1).f3), .int .i32 ((rd_T24 l0 a1).f4)]] rfl (by (try simp only [List.map_toArray, List.map_cons, List.map_nil]); first | done | rfl | (simp only [List.length_drop, List.length_take]; rfl)) ?_; (with_reducible refine (isa_IsJump.calls ((rd_T24 l0 a1).f0) ((rd_T24 l0 a1).f1) ((rd_T24 l0 a1).f2) ((rd_T24 l0 a1).f3) ((rd_T24 l0 a1).f4) true _ A47.out).mono ?_); rintro e w58 ⟨rfl, hb⟩; refine ⟨_, rfl, ?_⟩; have n0_ := Aside0.mk (blk_below (g := gb122) (o := .cells #[.int .u8 ((rd_T24 l0 a1).f0), .int .u8 ((rd_T24 l0 a1).f1), .int .u8 ((rd_T24 l0 a1).f2), .int .i16 ((rd_T24 l0 a1).f3), .int .i32 ((rd_T24 l0 a1).f4)] 24 (0, 0)) (by (with_reducible repeat (first | refine blk_drewN ?_ _ | refine blk_drew ?_ | refine blk_alloc ?_ _)); exact BK122.out) hb); have n1_ := Aside0.mk (below_step (by repeat (first | (with_reducible first | exact HB.out | apply below_alloc | apply pw_below_drewN | apply below_drew1 | refine below_set ?_ GE122.out) | exact HB.out)) hb); clear BK122; clear HB; have BK122 := n0_; have HB := n1_; clear n0_ n1_; (try clear hb); (try clear hb2); (try clear hk); (try clear hi); have hcz59_0 : w58.cell? ⟨gb122, 0, none⟩ = some (.int .u8 ((rd_T24 l0 a1).f0)) := (blk_cell BK122.out 0).trans rfl; have hcz59_1 : w58.cell? ⟨gb122, 1, none⟩ = some (.int .u8 ((rd_T24 l0 a1).f1)) := (blk_cell BK122.out 1).trans rfl; have hcz59_2 : w58.cell? ⟨gb122, 2, none⟩ = some (.int .u8 ((rd_T24 l0 a1).f2)) := (blk_cell BK122.out 2).trans rfl; have hcz59_3 : w58.cell? ⟨gb122, 3, none⟩ = some (.int .i16 ((rd_T24 l0 a1).f3)) := (blk_cell BK122.out 3).trans rfl; have hcz59_4 : w58.cell? ⟨gb122, 4, none⟩ = some (.int .i32 ((rd_T24 l0 a1).f4)) := (blk_cell BK122.out 4).trans rfl; have hfz59_0 := blk_frozen BK122.out 0; have hfz59_1 := blk_frozen BK122.out 1; have hfz59_2 := blk_frozen BK122.out 2; have hfz59_3 := blk_frozen BK122.out 3; have hfz59_4 := blk_frozen BK122.out 4) | (go_at_call 17; (with_reducible refine (isa_Second.calls k _ _ l0 (wrap64 ((wrap64 (a1 + 1)) + (wrap64 ((rd_T24 l0 a1).f3)))) t129 _ ?side1 ?side2 A51.out).mono ?_); (case side1 => repeat (first | exact (Kd.C_below HR0.out HB.out) | (with_reducible refine Kd.C_alloc ?_ _) | (with_reducible refine Kd.C_drewN ?_ _) | (with_reducible refine Kd.C_drew ?_))); (case side2 => exact HC0.out); rintro e w60 ⟨rfl, hb⟩; have n0_ := Aside0.mk (blk_below (g := gb122) (o := .cells #[.int .u8 ((rd_T24 l0 a1).f0), .int .u8 ((rd_T24 l0 a1).f1), .int .u8 ((rd_T24 l0 a1).f2), .int .i16 ((rd_T24 l0 a1).f3), .int .i32 ((rd_T24 l0 a1).f4)] 24 (0, 0)) (by (with_reducible repeat (first | refine blk_drewN ?_ _ | refine blk_drew ?_ | refine blk_alloc ?_ _)); exact BK122.out) hb); have n1_ := Aside0.mk (below_step (by repeat (first | (with_reducible first | exact HB.out | apply below_alloc | apply pw_below_drewN | apply below_drew1 | refine below_set ?_ GE122.out) | exact HB.out)) hb); clear BK122; clear HB; have BK122 := n0_; have HB := n1_; clear n0_ n1_; (try clear hb); (try clear hb2); (try clear hk); (try clear hi)))
                  go_ret
                  exact ⟨by first | rfl | (simp [errW_none, errW_some] <;> rfl) | (simp [*, errW_none, errW_some] <;> rfl), by repeat (first | (with_reducible first | exact HB.out | apply below_alloc | apply pw_below_drewN | apply below_drew1 | refine below_set ?_ GE122.out) | exact HB.out)⟩
                · rw [if_neg c50] at H
                  have c50b0 : decide ((wrap64 ((wrap64 (a1 + 1)) + (wrap64 ((rd_T24 l0 a1).f3)))) < (l0.length : Int)) = false := decide_eq_false c50
                  clear c50
                  obtain rfl := Option.some.inj H
                  have p121 : 0 ≤ (a1 : Int) := of_decide_eq_true (by first | (with_reducible assumption) | assumption)
                  have q121 : a1 < (l0.length : Int) := of_decide_eq_true (by first | (with_reducible assumption) | assumption)
                  obtain ⟨ad121, e121, hx121_0, hx121_1, hx121_2, hx121_3, hx121_4⟩ := at_T24 HR0.out a1 p121 q121
                  cases e121
                  replace p121 := eq_true p121
                  replace q121 := eq_true q121
                  go_enter Try.func42, Try.ntmps42
                  go_wp2_with (first | ((with_reducible refine gate_dst (N := 7) rfl ?_); (try (refine gate_guard (by rfl) ?_; dsimp only)); refine box_event ?hg (N := 7) ?hd (cs := #[.int .u8 0, .int .u8 0, .int .u8 0, .int .i16 0, .int .i32 0]) (t := 24) ?hr ?_; (case hd => rfl); (case hg => rfl); (case hr => first | (go_simp; done) | (go_simp; rfl)); intro gb122 hg w61 hbox hb; have n0_ := Aside0.mk (below_step (by repeat (first | (with_reducible first | exact HB.out | apply below_alloc | apply pw_below_drewN | apply below_drew1) | exact HB.out)) hb); have n1_ := Aside0.mk (hbox); have n2_ := Aside0.mk ((by rw [hg]; exact (below_size (by repeat (first | (with_reducible first | exact HB.out | apply below_alloc | apply pw_below_drewN | apply below_drew1) | exact HB.out))) : w.heap.size ≤ gb122)); have n3_ := Aside0.mk ((by rw [hg]; exact (below_size (by repeat (first | (with_reducible first | exact HB.out | apply below_alloc | apply pw_below_drewN | apply below_drew1) | exact HB.out))) : w.heap.size ≤ gb122)); clear HB; have HB := n0_; have BK122 := n1_; have GW122 := n2_; have GE122 := n3_; clear n0_ n1_ n2_ n3_; clear hb hbox hg; have hcz62_0 : w61.cell? ⟨gb122, 0, none⟩ = some (.int .u8 0) := (blk_cell BK122.out 0).trans rfl; have hcz62_1 : w61.cell? ⟨gb122, 1, none⟩ = some (.int .u8 0) := (blk_cell BK122.out 1).trans rfl; have hcz62_2 : w61.cell? ⟨gb122, 2, none⟩ = some (.int .u8 0) := (blk_cell BK122.out 2).trans rfl; have hcz62_3 : w61.cell? ⟨gb122, 3, none⟩ = some (.int .i16 0) := (blk_cell BK122.out 3).trans rfl; have hcz62_4 : w61.cell? ⟨gb122, 4, none⟩ = some (.int .i32 0) := (blk_cell BK122.out 4).trans rfl; have hfz62_0 := blk_frozen BK122.out 0; have hfz62_1 := blk_frozen BK122.out 1; have hfz62_2 := blk_frozen BK122.out 2; have hfz62_3 := blk_frozen BK122.out 3; have hfz62_4 := blk_frozen BK122.out 4) | ((with_reducible refine gate_callee (f := 17) rfl ?_); refine goesL_ (some 16) rfl rfl Try.func17 (by kernel_rfl) rfl #[.slice (some ad121) l0.length c0, .int .i64 a1] rfl (by (try simp only [List.map_toArray, List.map_cons, List.map_nil]); first | done | rfl | (simp only [List.length_drop, List.length_take]; rfl)) ?_; (with_reducible refine (isa_Second.calls k _ _ l0 a1 false _ ?side1 ?side2 A6.out).mono ?_); (case side1 => exact Kd.C_below HR0.out (by repeat (first | (with_reducible first | exact HB.out | apply below_alloc | apply pw_below_drewN | apply below_drew1 | refine below_set ?_ GE122.out) | exact HB.out))); (case side2 => exact HC0.out); rintro e w63 ⟨rfl, hb⟩; refine ⟨_, rfl, ?_⟩; have n0_ := Aside0.mk (blk_below (g := gb122) (o := .cells #[.int .u8 ((rd_T24 l0 a1).f0), .int .u8 ((rd_T24 l0 a1).f1), .int .u8 ((rd_T24 l0 a1).f2), .int .i16 ((rd_T24 l0 a1).f3), .int .i32 ((rd_T24 l0 a1).f4)] 24 (0, 0)) (by (with_reducible repeat (first | refine blk_drewN ?_ _ | refine blk_drew ?_ | refine blk_alloc ?_ _)); refine blk_put (cs := #[.int .u8 ((rd_T24 l0 a1).f0), .int .u8 ((rd_T24 l0 a1).f1), .int .u8 ((rd_T24 l0 a1).f2), .int .i16 ((rd_T24 l0 a1).f3), .int .i32 0]) ?_ 4 _ rfl; (with_reducible repeat (first | refine blk_drewN ?_ _ | refine blk_drew ?_ | refine blk_alloc ?_ _)); refine blk_put (cs := #[.int .u8 ((rd_T24 l0 a1).f0), .int .u8 ((rd_T24 l0 a1).f1), .int .u8 ((rd_T24 l0 a1).f2), .int .i16 0, .int .i32 0]) ?_ 3 _ rfl; (with_reducible repeat (first | refine blk_drewN ?_ _ | refine blk_drew ?_ | refine blk_alloc ?_ _)); refine blk_put (cs := #[.int .u8 ((rd_T24 l0 a1).f0), .int .u8 ((rd_T24 l0 a1).f1), .int .u8 0, .int .i16 0, .int .i32 0]) ?_ 2 _ rfl; (with_reducible repeat (first | refine blk_drewN ?_ _ | refine blk_drew ?_ | refine blk_alloc ?_ _)); refine blk_put (cs := #[.int .u8 ((rd_T24 l0 a1).f0), .int .u8 0, .int .u8 0, .int .i16 0, .int .i32 0]) ?_ 1 _ rfl; (with_reducible repeat (first | refine blk_drewN ?_ _ | refine blk_drew ?_ | refine blk_alloc ?_ _)); refine blk_put (cs := #[.int .u8 0, .int .u8 0, .int .u8 0, .int .i16 0, .int .i32 0]) ?_ 0 _ rfl; (with_reducible repeat (first | refine blk_drewN ?_ _ | refine blk_drew ?_ | refine blk_alloc ?_ _)); exact BK122.out) hb); have n1_ := Aside0.mk (below_step (by repeat (first | (with_reducible first | exact HB.out | apply below_alloc | apply pw_below_drewN | apply below_drew1 | refine below_set ?_ GE122.out) | exact HB.out)) hb); clear BK122; clear HB; have BK122 := n0_; have HB := n1_; clear n0_ n1_; (try clear hb); (try clear hb2); (try clear hk); (try clear hi); have hcz64_0 : w63.cell? ⟨gb122, 0, none⟩ = some (.int .u8 ((rd_T24 l0 a1).f0)) := (blk_cell BK122.out 0).trans rfl; have hcz64_1 : w63.cell? ⟨gb122, 1, none⟩ = some (.int .u8 ((rd_T24 l0 a1).f1)) := (blk_cell BK122.out 1).trans rfl; have hcz64_2 : w63.cell? ⟨gb122, 2, none⟩ = some (.int .u8 ((rd_T24 l0 a1).f2)) := (blk_cell BK122.out 2).trans rfl; have hcz64_3 : w63.cell? ⟨gb122, 3, none⟩ = some (.int .i16 ((rd_T24 l0 a1).f3)) := (blk_cell BK122.out 3).trans rfl; have hcz64_4 : w63.cell? ⟨gb122, 4, none⟩ = some (.int .i32 ((rd_T24 l0 a1).f4)) := (blk_cell BK122.out 4).trans rfl; have hfz64_0 := blk_frozen BK122.out 0; have hfz64_1 := blk_frozen BK122.out 1; have hfz64_2 := blk_frozen BK122.out 2; have hfz64_3 := blk_frozen BK122.out 3; have hfz64_4 := blk_frozen BK122.out 4) | ((with_reducible refine gate_callee (f := 10) rfl ?_); refine goesL_ (some 19) rfl rfl Try.func10 (by kernel_rfl) rfl #[.agg #[.int .u8 ((rd_T24 l0 a1).f0), .int .u8 ((rd_T24 l0 a1).f1), .int .u8 ((rd_T24 l0 a1).f2), .int .i16 ((rd_T24 l0 a1).f3), .int .i32 ((rd_T24 l0 a1).f4)]] rfl (by (try simp only [List.map_toArray, List.map_cons, List.map_nil]); first | done | rfl | (simp only [List.length_drop, List.length_take]; rfl)) ?_; (with_reducible refine (isa_Right.calls k ((rd_T24 l0 a1).f0) ((rd_T24 l0 a1).f1) ((rd_T24 l0 a1).f2) ((rd_T24 l0 a1).f3) ((rd_T24 l0 a1).f4) true _ A11.out).mono ?_); rintro e w65 ⟨rfl, hb⟩; refine ⟨_, rfl, ?_⟩; have n0_ := Aside0.mk (blk_below (g := gb122) (o := .cells #[.int .u8 ((rd_T24 l0 a1).f0), .int .u8 ((rd_T24 l0 a1).f1), .int .u8 ((rd_T24 l0 a1).f2), .int .i16 ((rd_T24 l0 a1).f3), .int .i32 ((rd_T24 l0 a1).f4)] 24 (0, 0)) (by (with_reducible repeat (first | refine blk_drewN ?_ _ | refine blk_drew ?_ | refine blk_alloc ?_ _)); exact BK122.out) hb); have n1_ := Aside0.mk (below_step (by repeat (first | (with_reducible first | exact HB.out | apply below_alloc | apply pw_below_drewN | apply below_drew1 | refine below_set ?_ GE122.out) | exact HB.out)) hb); clear BK122; clear HB; have BK122 := n0_; have HB := n1_; clear n0_ n1_; (try clear hb); (try clear hb2); (try clear hk); (try clear hi); have hcz66_0 : w65.cell? ⟨gb122, 0, none⟩ = some (.int .u8 ((rd_T24 l0 a1).f0)) := (blk_cell BK122.out 0).trans rfl; have hcz66_1 : w65.cell? ⟨gb122, 1, none⟩ = some (.int .u8 ((rd_T24 l0 a1).f1)) := (blk_cell BK122.out 1).trans rfl; have hcz66_2 : w65.cell? ⟨gb122, 2, none⟩ = some (.int .u8 ((rd_T24 l0 a1).f2)) := (blk_cell BK122.out 2).trans rfl; have hcz66_3 : w65.cell? ⟨gb122, 3, none⟩ = some (.int .i16 ((rd_T24 l0 a1).f3)) := (blk_cell BK122.out 3).trans rfl; have hcz66_4 : w65.cell? ⟨gb122, 4, none⟩ = some (.int .i32 ((rd_T24 l0 a1).f4)) := (blk_cell BK122.out 4).trans rfl; have hfz66_0 := blk_frozen BK122.out 0; have hfz66_1 := blk_frozen BK122.out 1; have hfz66_2 := blk_frozen BK122.out 2; have hfz66_3 := blk_frozen BK122.out 3; have hfz66_4 := blk_frozen BK122.out 4) | ((with_reducible refine gate_callee (f := 14) rfl ?_); refine goesL_ (some 49) rfl rfl Try.func14 (by kernel_rfl) rfl #[.agg #[.int .u8 ((rd_T24 l0 a1).f0), .int .u8 ((rd_T24 l0 a1).f1), .int .u8 ((rd_T24 l0 a1).f2), .int .i16 ((rd_T24 l0 a1).f3), .int .i32 ((rd_T24 l0 a1).f4)]] rfl (by (try simp only [List.map_toArray, List.map_cons, List.map_nil]); first | done | rfl | (simp only [List.length_drop, List.length_take]; rfl)) ?_; (with_reducible refine (isa_IsJump.calls ((rd_T24 l0 a1).f0) ((rd_T24 l0 a1).f1) ((rd_T24 l0 a1).f2) ((rd_T24 l0 a1).f3) ((rd_T24 l0 a1).f4) true _ A47.out).mono ?_); rintro e w67 ⟨rfl, hb⟩; refine ⟨_, rfl, ?_⟩; have n0_ := Aside0.mk (blk_below (g := gb122) (o := .cells #[.int .u8 ((rd_T24 l0 a1).f0), .int .u8 ((rd_T24 l0 a1).f1), .int .u8 ((rd_T24 l0 a1).f2), .int .i16 ((rd_T24 l0 a1).f3), .int .i32 ((rd_T24 l0 a1).f4)] 24 (0, 0)) (by (with_reducible repeat (first | refine blk_drewN ?_ _ | refine blk_drew ?_ | refine blk_alloc ?_ _)); exact BK122.out) hb); have n1_ := Aside0.mk (below_step (by repeat (first | (with_reducible first | exact HB.out | apply below_alloc | apply pw_below_drewN | apply below_drew1 | refine below_set ?_ GE122.out) | exact HB.out)) hb); clear BK122; clear HB; have BK122 := n0_; have HB := n1_; clear n0_ n1_; (try clear hb); (try clear hb2); (try clear hk); (try clear hi); have hcz68_0 : w67.cell? ⟨gb122, 0, none⟩ = some (.int .u8 ((rd_T24 l0 a1).f0)) := (blk_cell BK122.out 0).trans rfl; have hcz68_1 : w67.cell? ⟨gb122, 1, none⟩ = some (.int .u8 ((rd_T24 l0 a1).f1)) := (blk_cell BK122.out 1).trans rfl; have hcz68_2 : w67.cell? ⟨gb122, 2, none⟩ = some (.int .u8 ((rd_T24 l0 a1).f2)) := (blk_cell BK122.out 2).trans rfl; have hcz68_3 : w67.cell? ⟨gb122, 3, none⟩ = some (.int .i16 ((rd_T24 l0 a1).f3)) := (blk_cell BK122.out 3).trans rfl; have hcz68_4 : w67.cell? ⟨gb122, 4, none⟩ = some (.int .i32 ((rd_T24 l0 a1).f4)) := (blk_cell BK122.out 4).trans rfl; have hfz68_0 := blk_frozen BK122.out 0; have hfz68_1 := blk_frozen BK122.out 1; have hfz68_2 := blk_frozen BK122.out 2; have hfz68_3 := blk_frozen BK122.out 3; have hfz68_4 := blk_frozen BK122.out 4))
                  go_ret
                  exact ⟨by first | rfl | (simp [errW_none, errW_some] <;> rfl) | (simp [*, errW_none, errW_some] <;> rfl), by repeat (first | (with_reducible first | exact HB.out | apply below_alloc | apply pw_below_drewN | apply below_drew1 | refine below_set ?_ GE122.out) | exact HB.out)⟩
              · rw [if_neg c49] at H
                have c49b0 : decide (0 ≤ ((rd_T24 l0 a1).f3)) = false := decide_eq_false c49
                clear c49
                obtain rfl := Option.some.inj H
                have p121 : 0 ≤ (a1 : Int) := of_decide_eq_true (by first | (with_reducible assumption) | assumption)
                have q121 : a1 < (l0.length : Int) := of_decide_eq_true (by first | (with_reducible assumption) | assumption)
                obtain ⟨ad121, e121, hx121_0, hx121_1, hx121_2, hx121_3, hx121_4⟩ := at_T24 HR0.out a1 p121 q121
                cases e121
                replace p121 := eq_true p121
                replace q121 := eq_true q121
                go_enter Try.func42, Try.ntmps42
                go_wp2_with (first | ((with_reducible refine gate_dst (N := 7) rfl ?_); (try (refine gate_guard (by rfl) ?_; dsimp only)); refine box_event ?hg (N := 7) ?hd (cs := #[.int .u8 0, .int .u8 0, .int .u8 0, .int .i16 0, .int .i32 0]) (t := 24) ?hr ?_; (case hd => rfl); (case hg => rfl); (case hr => first | (go_simp; done) | (go_simp; rfl)); intro gb122 hg w69 hbox hb; have n0_ := Aside0.mk (below_step (by repeat (first | (with_reducible first | exact HB.out | apply below_alloc | apply pw_below_drewN | apply below_drew1) | exact HB.out)) hb); have n1_ := Aside0.mk (hbox); have n2_ := Aside0.mk ((by rw [hg]; exact (below_size (by repeat (first | (with_reducible first | exact HB.out | apply below_alloc | apply pw_below_drewN | apply below_drew1) | exact HB.out))) : w.heap.size ≤ gb122)); have n3_ := Aside0.mk ((by rw [hg]; exact (below_size (by repeat (first | (with_reducible first | exact HB.out | apply below_alloc | apply pw_below_drewN | apply below_drew1) | exact HB.out))) : w.heap.size ≤ gb122)); clear HB; have HB := n0_; have BK122 := n1_; have GW122 := n2_; have GE122 := n3_; clear n0_ n1_ n2_ n3_; clear hb hbox hg; have hcz70_0 : w69.cell? ⟨gb122, 0, none⟩ = some (.int .u8 0) := (blk_cell BK122.out 0).trans rfl; have hcz70_1 : w69.cell? ⟨gb122, 1, none⟩ = some (.int .u8 0) := (blk_cell BK122.out 1).trans rfl; have hcz70_2 : w69.cell? ⟨gb122, 2, none⟩ = some (.int .u8 0) := (blk_cell BK122.out 2).trans rfl; have hcz70_3 : w69.cell? ⟨gb122, 3, none⟩ = some (.int .i16 0) := (blk_cell BK122.out 3).trans rfl; have hcz70_4 : w69.cell? ⟨gb122, 4, none⟩ = some (.int .i32 0) := (blk_cell BK122.out 4).trans rfl; have hfz70_0 := blk_frozen BK122.out 0; have hfz70_1 := blk_frozen BK122.out 1; have hfz70_2 := blk_frozen BK122.out 2; have hfz70_3 := blk_frozen BK122.out 3; have hfz70_4 := blk_frozen BK122.out 4) | ((with_reducible refine gate_callee (f := 17) rfl ?_); refine goesL_ (some 16) rfl rfl Try.func17 (by kernel_rfl) rfl #[.slice (some ad121) l0.length c0, .int .i64 a1] rfl (by (try simp only [List.map_toArray, List.map_cons, List.map_nil]); first | done | rfl | (simp only [List.length_drop, List.length_take]; rfl)) ?_; (with_reducible refine (isa_Second.calls k _ _ l0 a1 false _ ?side1 ?side2 A6.out).mono ?_); (case side1 => exact Kd.C_below HR0.out (by repeat (first | (with_reducible first | exact HB.out | apply below_alloc | apply pw_below_drewN | apply below_drew1 | refine below_set ?_ GE122.out) | exact HB.out))); (case side2 => exact HC0.out); rintro e w71 ⟨rfl, hb⟩; refine ⟨_, rfl, ?_⟩; have n0_ := Aside0.mk (blk_below (g := gb122) (o := .cells #[.int .u8 ((rd_T24 l0 a1).f0), .int .u8 ((rd_T24 l0 a1).f1), .int .u8 ((rd_T24 l0 a1).f2), .int .i16 ((rd_T24 l0 a1).f3), .int .i32 ((rd_T24 l0 a1).f4)] 24 (0, 0)) (by (with_reducible repeat (first | refine blk_drewN ?_ _ | refine blk_drew ?_ | refine blk_alloc ?_ _)); refine blk_put (cs := #[.int .u8 ((rd_T24 l0 a1).f0), .int .u8 ((rd_T24 l0 a1).f1), .int .u8 ((rd_T24 l0 a1).f2), .int .i16 ((rd_T24 l0 a1).f3), .int .i32 0]) ?_ 4 _ rfl; (with_reducible repeat (first | refine blk_drewN ?_ _ | refine blk_drew ?_ | refine blk_alloc ?_ _)); refine blk_put (cs := #[.int .u8 ((rd_T24 l0 a1).f0), .int .u8 ((rd_T24 l0 a1).f1), .int .u8 ((rd_T24 l0 a1).f2), .int .i16 0, .int .i32 0]) ?_ 3 _ rfl; (with_reducible repeat (first | refine blk_drewN ?_ _ | refine blk_drew ?_ | refine blk_alloc ?_ _)); refine blk_put (cs := #[.int .u8 ((rd_T24 l0 a1).f0), .int .u8 ((rd_T24 l0 a1).f1), .int .u8 0, .int .i16 0, .int .i32 0]) ?_ 2 _ rfl; (with_reducible repeat (first | refine blk_drewN ?_ _ | refine blk_drew ?_ | refine blk_alloc ?_ _)); refine blk_put (cs := #[.int .u8 ((rd_T24 l0 a1).f0), .int .u8 0, .int .u8 0, .int .i16 0, .int .i32 0]) ?_ 1 _ rfl; (with_reducible repeat (first | refine blk_drewN ?_ _ | refine blk_drew ?_ | refine blk_alloc ?_ _)); refine blk_put (cs := #[.int .u8 0, .int .u8 0, .int .u8 0, .int .i16 0, .int .i32 0]) ?_ 0 _ rfl; (with_reducible repeat (first | refine blk_drewN ?_ _ | refine blk_drew ?_ | refine blk_alloc ?_ _)); exact BK122.out) hb); have n1_ := Aside0.mk (below_step (by repeat (first | (with_reducible first | exact HB.out | apply below_alloc | apply pw_below_drewN | apply below_drew1 | refine below_set ?_ GE122.out) | exact HB.out)) hb); clear BK122; clear HB; have BK122 := n0_; have HB := n1_; clear n0_ n1_; (try clear hb); (try clear hb2); (try clear hk); (try clear hi); have hcz72_0 : w71.cell? ⟨gb122, 0, none⟩ = some (.int .u8 ((rd_T24 l0 a1).f0)) := (blk_cell BK122.out 0).trans rfl; have hcz72_1 : w71.cell? ⟨gb122, 1, none⟩ = some (.int .u8 ((rd_T24 l0 a1).f1)) := (blk_cell BK122.out 1).trans rfl; have hcz72_2 : w71.cell? ⟨gb122, 2, none⟩ = some (.int .u8 ((rd_T24 l0 a1).f2)) := (blk_cell BK122.out 2).trans rfl; have hcz72_3 : w71.cell? ⟨gb122, 3, none⟩ = some (.int .i16 ((rd_T24 l0 a1).f3)) := (blk_cell BK122.out 3).trans rfl; have hcz72_4 : w71.cell? ⟨gb122, 4, none⟩ = some (.int .i32 ((rd_T24 l0 a1).f4)) := (blk_cell BK122.out 4).trans rfl; have hfz72_0 := blk_frozen BK122.out 0; have hfz72_1 := blk_frozen BK122.out 1; have hfz72_2 := blk_frozen BK122.out 2; have hfz72_3 := blk_frozen BK122.out 3; have hfz72_4 := blk_frozen BK122.out 4) | ((with_reducible refine gate_callee (f := 10) rfl ?_); refine goesL_ (some 19) rfl rfl Try.func10 (by kernel_rfl) rfl #[.agg #[.int .u8 ((rd_T24 l0 a1).f0), .int .u8 ((rd_T24 l0 a1).f1), .int .u8 ((rd_T24 l0 a1).f2), .int .i16 ((rd_T24 l0 a1).f3), .int .i32 ((rd_T24 l0 a1).f4)]] rfl (by (try simp only [List.map_toArray, List.map_cons, List.map_nil]); first | done | rfl | (simp only [List.length_drop, List.length_take]; rfl)) ?_; (with_reducible refine (isa_Right.calls k ((rd_T24 l0 a1).f0) ((rd_T24 l0 a1).f1) ((rd_T24 l0 a1).f2) ((rd_T24 l0 a1).f3) ((rd_T24 l0 a1).f4) true _ A11.out).mono ?_); rintro e w73 ⟨rfl, hb⟩; refine ⟨_, rfl, ?_⟩; have n0_ := Aside0.mk (blk_below (g := gb122) (o := .cells #[.int .u8 ((rd_T24 l0 a1).f0), .int .u8 ((rd_T24 l0 a1).f1), .int .u8 ((rd_T24 l0 a1).f2), .int .i16 ((rd_T24 l0 a1).f3), .int .i32 ((rd_T24 l0 a1).f4)] 24 (0, 0)) (by (with_reducible repeat (first | refine blk_drewN ?_ _ | refine blk_drew ?_ | refine blk_alloc ?_ _)); exact BK122.out) hb); have n1_ := Aside0.mk (below_step (by repeat (first | (with_reducible first | exact HB.out | apply below_alloc | apply pw_below_drewN | apply below_drew1 | refine below_set ?_ GE122.out) | exact HB.out)) hb); clear BK122; clear HB; have BK122 := n0_; have HB := n1_; clear n0_ n1_; (try clear hb); (try clear hb2); (try clear hk); (try clear hi); have hcz74_0 : w73.cell? ⟨gb122, 0, none⟩ = some (.int .u8 ((rd_T24 l0 a1).f0)) := (blk_cell BK122.out 0).trans rfl; have hcz74_1 : w73.cell? ⟨gb122, 1, none⟩ = some (.int .u8 ((rd_T24 l0 a1).f1)) := (blk_cell BK122.out 1).trans rfl; have hcz74_2 : w73.cell? ⟨gb122, 2, none⟩ = some (.int .u8 ((rd_T24 l0 a1).f2)) := (blk_cell BK122.out 2).trans rfl; have hcz74_3 : w73.cell? ⟨gb122, 3, none⟩ = some (.int .i16 ((rd_T24 l0 a1).f3)) := (blk_cell BK122.out 3).trans rfl; have hcz74_4 : w73.cell? ⟨gb122, 4, none⟩ = some (.int .i32 ((rd_T24 l0 a1).f4)) := (blk_cell BK122.out 4).trans rfl; have hfz74_0 := blk_frozen BK122.out 0; have hfz74_1 := blk_frozen BK122.out 1; have hfz74_2 := blk_frozen BK122.out 2; have hfz74_3 := blk_frozen BK122.out 3; have hfz74_4 := blk_frozen BK122.out 4) | ((with_reducible refine gate_callee (f := 14) rfl ?_); refine goesL_ (some 49) rfl rfl Try.func14 (by kernel_rfl) rfl #[.agg #[.int .u8 ((rd_T24 l0 a1).f0), .int .u8 ((rd_T24 l0 a1).f1), .int .u8 ((rd_T24 l0 a1).f2), .int .i16 ((rd_T24 l0 a1).f3), .int .i32 ((rd_T24 l0 a1).f4)]] rfl (by (try simp only [List.map_toArray, List.map_cons, List.map_nil]); first | done | rfl | (simp only [List.length_drop, List.length_take]; rfl)) ?_; (with_reducible refine (isa_IsJump.calls ((rd_T24 l0 a1).f0) ((rd_T24 l0 a1).f1) ((rd_T24 l0 a1).f2) ((rd_T24 l0 a1).f3) ((rd_T24 l0 a1).f4) true _ A47.out).mono ?_); rintro e w75 ⟨rfl, hb⟩; refine ⟨_, rfl, ?_⟩; have n0_ := Aside0.mk (blk_below (g := gb122) (o := .cells #[.int .u8 ((rd_T24 l0 a1).f0), .int .u8 ((rd_T24 l0 a1).f1), .int .u8 ((rd_T24 l0 a1).f2), .int .i16 ((rd_T24 l0 a1).f3), .int .i32 ((rd_T24 l0 a1).f4)] 24 (0, 0)) (by (with_reducible repeat (first | refine blk_drewN ?_ _ | refine blk_drew ?_ | refine blk_alloc ?_ _)); exact BK122.out) hb); have n1_ := Aside0.mk (below_step (by repeat (first | (with_reducible first | exact HB.out | apply below_alloc | apply pw_below_drewN | apply below_drew1 | refine below_set ?_ GE122.out) | exact HB.out)) hb); clear BK122; clear HB; have BK122 := n0_; have HB := n1_; clear n0_ n1_; (try clear hb); (try clear hb2); (try clear hk); (try clear hi); have hcz76_0 : w75.cell? ⟨gb122, 0, none⟩ = some (.int .u8 ((rd_T24 l0 a1).f0)) := (blk_cell BK122.out 0).trans rfl; have hcz76_1 : w75.cell? ⟨gb122, 1, none⟩ = some (.int .u8 ((rd_T24 l0 a1).f1)) := (blk_cell BK122.out 1).trans rfl; have hcz76_2 : w75.cell? ⟨gb122, 2, none⟩ = some (.int .u8 ((rd_T24 l0 a1).f2)) := (blk_cell BK122.out 2).trans rfl; have hcz76_3 : w75.cell? ⟨gb122, 3, none⟩ = some (.int .i16 ((rd_T24 l0 a1).f3)) := (blk_cell BK122.out 3).trans rfl; have hcz76_4 : w75.cell? ⟨gb122, 4, none⟩ = some (.int .i32 ((rd_T24 l0 a1).f4)) := (blk_cell BK122.out 4).trans rfl; have hfz76_0 := blk_frozen BK122.out 0; have hfz76_1 := blk_frozen BK122.out 1; have hfz76_2 := blk_frozen BK122.out 2; have hfz76_3 := blk_frozen BK122.out 3; have hfz76_4 := blk_frozen BK122.out 4))
                go_ret
                exact ⟨by first | rfl | (simp [errW_none, errW_some] <;> rfl) | (simp [*, errW_none, errW_some] <;> rfl), by repeat (first | (with_reducible first | exact HB.out | apply below_alloc | apply pw_below_drewN | apply below_drew1 | refine below_set ?_ GE122.out) | exact HB.out)⟩
            · replace c48 := Bool.eq_false_iff.mpr c48
              subst c48
              have H1 : (some true) = some r := by rw [if_neg (show ¬ (false = true) by decide)] at H; exact H
              clear H
              have H := H1
              clear H1
              obtain rfl := Option.some.inj H
              have p121 : 0 ≤ (a1 : Int) := of_decide_eq_true (by first | (with_reducible assumption) | assumption)
              have q121 : a1 < (l0.length : Int) := of_decide_eq_true (by first | (with_reducible assumption) | assumption)
              obtain ⟨ad121, e121, hx121_0, hx121_1, hx121_2, hx121_3, hx121_4⟩ := at_T24 HR0.out a1 p121 q121
              cases e121
              replace p121 := eq_true p121
              replace q121 := eq_true q121
              go_enter Try.func42, Try.ntmps42
              go_wp2_with (first | ((with_reducible refine gate_dst (N := 7) rfl ?_); (try (refine gate_guard (by rfl) ?_; dsimp only)); refine box_event ?hg (N := 7) ?hd (cs := #[.int .u8 0, .int .u8 0, .int .u8 0, .int .i16 0, .int .i32 0]) (t := 24) ?hr ?_; (case hd => rfl); (case hg => rfl); (case hr => first | (go_simp; done) | (go_simp; rfl)); intro gb122 hg w77 hbox hb; have n0_ := Aside0.mk (below_step (by repeat (first | (with_reducible first | exact HB.out | apply below_alloc | apply pw_below_drewN | apply below_drew1) | exact HB.out)) hb); have n1_ := Aside0.mk (hbox); have n2_ := Aside0.mk ((by rw [hg]; exact (below_size (by repeat (first | (with_reducible first | exact HB.out | apply below_alloc | apply pw_below_drewN | apply below_drew1) | exact HB.out))) : w.heap.size ≤ gb122)); have n3_ := Aside0.mk ((by rw [hg]; exact (below_size (by repeat (first | (with_reducible first | exact HB.out | apply below_alloc | apply pw_below_drewN | apply below_drew1) | exact HB.out))) : w.heap.size ≤ gb122)); clear HB; have HB := n0_; have BK122 := n1_; have GW122 := n2_; have GE122 := n3_; clear n0_ n1_ n2_ n3_; clear hb hbox hg; have hcz78_0 : w77.cell? ⟨gb122, 0, none⟩ = some (.int .u8 0) := (blk_cell BK122.out 0).trans rfl; have hcz78_1 : w77.cell? ⟨gb122, 1, none⟩ = some (.int .u8 0) := (blk_cell BK122.out 1).trans rfl; have hcz78_2 : w77.cell? ⟨gb122, 2, none⟩ = some (.int .u8 0) := (blk_cell BK122.out 2).trans rfl; have hcz78_3 : w77.cell? ⟨gb122, 3, none⟩ = some (.int .i16 0) := (blk_cell BK122.out 3).trans rfl; have hcz78_4 : w77.cell? ⟨gb122, 4, none⟩ = some (.int .i32 0) := (blk_cell BK122.out 4).trans rfl; have hfz78_0 := blk_frozen BK122.out 0; have hfz78_1 := blk_frozen BK122.out 1; have hfz78_2 := blk_frozen BK122.out 2; have hfz78_3 := blk_frozen BK122.out 3; have hfz78_4 := blk_frozen BK122.out 4) | ((with_reducible refine gate_callee (f := 17) rfl ?_); refine goesL_ (some 16) rfl rfl Try.func17 (by kernel_rfl) rfl #[.slice (some ad121) l0.length c0, .int .i64 a1] rfl (by (try simp only [List.map_toArray, List.map_cons, List.map_nil]); first | done | rfl | (simp only [List.length_drop, List.length_take]; rfl)) ?_; (with_reducible refine (isa_Second.calls k _ _ l0 a1 false _ ?side1 ?side2 A6.out).mono ?_); (case side1 => exact Kd.C_below HR0.out (by repeat (first | (with_reducible first | exact HB.out | apply below_alloc | apply pw_below_drewN | apply below_drew1 | refine below_set ?_ GE122.out) | exact HB.out))); (case side2 => exact HC0.out); rintro e w79 ⟨rfl, hb⟩; refine ⟨_, rfl, ?_⟩; have n0_ := Aside0.mk (blk_below (g := gb122) (o := .cells #[.int .u8 ((rd_T24 l0 a1).f0), .int .u8 ((rd_T24 l0 a1).f1), .int .u8 ((rd_T24 l0 a1).f2), .int .i16 ((rd_T24 l0 a1).f3), .int .i32 ((rd_T24 l0 a1).f4)] 24 (0, 0)) (by (with_reducible repeat (first | refine blk_drewN ?_ _ | refine blk_drew ?_ | refine blk_alloc ?_ _)); refine blk_put (cs := #[.int .u8 ((rd_T24 l0 a1).f0), .int .u8 ((rd_T24 l0 a1).f1), .int .u8 ((rd_T24 l0 a1).f2), .int .i16 ((rd_T24 l0 a1).f3), .int .i32 0]) ?_ 4 _ rfl; (with_reducible repeat (first | refine blk_drewN ?_ _ | refine blk_drew ?_ | refine blk_alloc ?_ _)); refine blk_put (cs := #[.int .u8 ((rd_T24 l0 a1).f0), .int .u8 ((rd_T24 l0 a1).f1), .int .u8 ((rd_T24 l0 a1).f2), .int .i16 0, .int .i32 0]) ?_ 3 _ rfl; (with_reducible repeat (first | refine blk_drewN ?_ _ | refine blk_drew ?_ | refine blk_alloc ?_ _)); refine blk_put (cs := #[.int .u8 ((rd_T24 l0 a1).f0), .int .u8 ((rd_T24 l0 a1).f1), .int .u8 0, .int .i16 0, .int .i32 0]) ?_ 2 _ rfl; (with_reducible repeat (first | refine blk_drewN ?_ _ | refine blk_drew ?_ | refine blk_alloc ?_ _)); refine blk_put (cs := #[.int .u8 ((rd_T24 l0 a1).f0), .int .u8 0, .int .u8 0, .int .i16 0, .int .i32 0]) ?_ 1 _ rfl; (with_reducible repeat (first | refine blk_drewN ?_ _ | refine blk_drew ?_ | refine blk_alloc ?_ _)); refine blk_put (cs := #[.int .u8 0, .int .u8 0, .int .u8 0, .int .i16 0, .int .i32 0]) ?_ 0 _ rfl; (with_reducible repeat (first | refine blk_drewN ?_ _ | refine blk_drew ?_ | refine blk_alloc ?_ _)); exact BK122.out) hb); have n1_ := Aside0.mk (below_step (by repeat (first | (with_reducible first | exact HB.out | apply below_alloc | apply pw_below_drewN | apply below_drew1 | refine below_set ?_ GE122.out) | exact HB.out)) hb); clear BK122; clear HB; have BK122 := n0_; have HB := n1_; clear n0_ n1_; (try clear hb); (try clear hb2); (try clear hk); (try clear hi); have hcz80_0 : w79.cell? ⟨gb122, 0, none⟩ = some (.int .u8 ((rd_T24 l0 a1).f0)) := (blk_cell BK122.out 0).trans rfl; have hcz80_1 : w79.cell? ⟨gb122, 1, none⟩ = some (.int .u8 ((rd_T24 l0 a1).f1)) := (blk_cell BK122.out 1).trans rfl; have hcz80_2 : w79.cell? ⟨gb122, 2, none⟩ = some (.int .u8 ((rd_T24 l0 a1).f2)) := (blk_cell BK122.out 2).trans rfl; have hcz80_3 : w79.cell? ⟨gb122, 3, none⟩ = some (.int .i16 ((rd_T24 l0 a1).f3)) := (blk_cell BK122.out 3).trans rfl; have hcz80_4 : w79.cell? ⟨gb122, 4, none⟩ = some (.int .i32 ((rd_T24 l0 a1).f4)) := (blk_cell BK122.out 4).trans rfl; have hfz80_0 := blk_frozen BK122.out 0; have hfz80_1 := blk_frozen BK122.out 1; have hfz80_2 := blk_frozen BK122.out 2; have hfz80_3 := blk_frozen BK122.out 3; have hfz80_4 := blk_frozen BK122.out 4) | ((with_reducible refine gate_callee (f := 10) rfl ?_); refine goesL_ (some 19) rfl rfl Try.func10 (by kernel_rfl) rfl #[.agg #[.int .u8 ((rd_T24 l0 a1).f0), .int .u8 ((rd_T24 l0 a1).f1), .int .u8 ((rd_T24 l0 a1).f2), .int .i16 ((rd_T24 l0 a1).f3), .int .i32 ((rd_T24 l0 a1).f4)]] rfl (by (try simp only [List.map_toArray, List.map_cons, List.map_nil]); first | done | rfl | (simp only [List.length_drop, List.length_take]; rfl)) ?_; (with_reducible refine (isa_Right.calls k ((rd_T24 l0 a1).f0) ((rd_T24 l0 a1).f1) ((rd_T24 l0 a1).f2) ((rd_T24 l0 a1).f3) ((rd_T24 l0 a1).f4) true _ A11.out).mono ?_); rintro e w81 ⟨rfl, hb⟩; refine ⟨_, rfl, ?_⟩; have n0_ := Aside0.mk (blk_below (g := gb122) (o := .cells #[.int .u8 ((rd_T24 l0 a1).f0), .int .u8 ((rd_T24 l0 a1).f1), .int .u8 ((rd_T24 l0 a1).f2), .int .i16 ((rd_T24 l0 a1).f3), .int .i32 ((rd_T24 l0 a1).f4)] 24 (0, 0)) (by (with_reducible repeat (first | refine blk_drewN ?_ _ | refine blk_drew ?_ | refine blk_alloc ?_ _)); exact BK122.out) hb); have n1_ := Aside0.mk (below_step (by repeat (first | (with_reducible first | exact HB.out | apply below_alloc | apply pw_below_drewN | apply below_drew1 | refine below_set ?_ GE122.out) | exact HB.out)) hb); clear BK122; clear HB; have BK122 := n0_; have HB := n1_; clear n0_ n1_; (try clear hb); (try clear hb2); (try clear hk); (try clear hi); have hcz82_0 : w81.cell? ⟨gb122, 0, none⟩ = some (.int .u8 ((rd_T24 l0 a1).f0)) := (blk_cell BK122.out 0).trans rfl; have hcz82_1 : w81.cell? ⟨gb122, 1, none⟩ = some (.int .u8 ((rd_T24 l0 a1).f1)) := (blk_cell BK122.out 1).trans rfl; have hcz82_2 : w81.cell? ⟨gb122, 2, none⟩ = some (.int .u8 ((rd_T24 l0 a1).f2)) := (blk_cell BK122.out 2).trans rfl; have hcz82_3 : w81.cell? ⟨gb122, 3, none⟩ = some (.int .i16 ((rd_T24 l0 a1).f3)) := (blk_cell BK122.out 3).trans rfl; have hcz82_4 : w81.cell? ⟨gb122, 4, none⟩ = some (.int .i32 ((rd_T24 l0 a1).f4)) := (blk_cell BK122.out 4).trans rfl; have hfz82_0 := blk_frozen BK122.out 0; have hfz82_1 := blk_frozen BK122.out 1; have hfz82_2 := blk_frozen BK122.out 2; have hfz82_3 := blk_frozen BK122.out 3; have hfz82_4 := blk_frozen BK122.out 4) | ((with_reducible refine gate_callee (f := 14) rfl ?_); refine goesL_ (some 49) rfl rfl Try.func14 (by kernel_rfl) rfl #[.agg #[.int .u8 ((rd_T24 l0 a1).f0), .int .u8 ((rd_T24 l0 a1).f1), .int .u8 ((rd_T24 l0 a1).f2), .int .i16 ((rd_T24 l0 a1).f3), .int .i32 ((rd_T24 l0 a1).f4)]] rfl (by (try simp only [List.map_toArray, List.map_cons, List.map_nil]); first | done | rfl | (simp only [List.length_drop, List.length_take]; rfl)) ?_; (with_reducible refine (isa_IsJump.calls ((rd_T24 l0 a1).f0) ((rd_T24 l0 a1).f1) ((rd_T24 l0 a1).f2) ((rd_T24 l0 a1).f3) ((rd_T24 l0 a1).f4) false _ A47.out).mono ?_); rintro e w83 ⟨rfl, hb⟩; refine ⟨_, rfl, ?_⟩; have n0_ := Aside0.mk (blk_below (g := gb122) (o := .cells #[.int .u8 ((rd_T24 l0 a1).f0), .int .u8 ((rd_T24 l0 a1).f1), .int .u8 ((rd_T24 l0 a1).f2), .int .i16 ((rd_T24 l0 a1).f3), .int .i32 ((rd_T24 l0 a1).f4)] 24 (0, 0)) (by (with_reducible repeat (first | refine blk_drewN ?_ _ | refine blk_drew ?_ | refine blk_alloc ?_ _)); exact BK122.out) hb); have n1_ := Aside0.mk (below_step (by repeat (first | (with_reducible first | exact HB.out | apply below_alloc | apply pw_below_drewN | apply below_drew1 | refine below_set ?_ GE122.out) | exact HB.out)) hb); clear BK122; clear HB; have BK122 := n0_; have HB := n1_; clear n0_ n1_; (try clear hb); (try clear hb2); (try clear hk); (try clear hi)))
              go_ret
              exact ⟨by first | rfl | (simp [errW_none, errW_some] <;> rfl) | (simp [*, errW_none, errW_some] <;> rfl), by repeat (first | (with_reducible first | exact HB.out | apply below_alloc | apply pw_below_drewN | apply below_drew1 | refine below_set ?_ GE122.out) | exact HB.out)⟩
        · replace c12 := Bool.eq_false_iff.mpr c12
          subst c12
          have H1 : (some false) = some r := by rw [if_neg (show ¬ (false = true) by decide)] at H; exact H
          clear H
          have H := H1
          clear H1
          obtain rfl := Option.some.inj H
          have p121 : 0 ≤ (a1 : Int) := of_decide_eq_true (by first | (with_reducible assumption) | assumption)
          have q121 : a1 < (l0.length : Int) := of_decide_eq_true (by first | (with_reducible assumption) | assumption)
          obtain ⟨ad121, e121, hx121_0, hx121_1, hx121_2, hx121_3, hx121_4⟩ := at_T24 HR0.out a1 p121 q121
          cases e121
          replace p121 := eq_true p121
          replace q121 := eq_true q121
          go_enter Try.func42, Try.ntmps42
          go_wp2_with (first | ((with_reducible refine gate_dst (N := 7) rfl ?_); (try (refine gate_guard (by rfl) ?_; dsimp only)); refine box_event ?hg (N := 7) ?hd (cs := #[.int .u8 0, .int .u8 0, .int .u8 0, .int .i16 0, .int .i32 0]) (t := 24) ?hr ?_; (case hd => rfl); (case hg => rfl); (case hr => first | (go_simp; done) | (go_simp; rfl)); intro gb122 hg w84 hbox hb; have n0_ := Aside0.mk (below_step (by repeat (first | (with_reducible first | exact HB.out | apply below_alloc | apply pw_below_drewN | apply below_drew1) | exact HB.out)) hb); have n1_ := Aside0.mk (hbox); have n2_ := Aside0.mk ((by rw [hg]; exact (below_size (by repeat (first | (with_reducible first | exact HB.out | apply below_alloc | apply pw_below_drewN | apply below_drew1) | exact HB.out))) : w.heap.size ≤ gb122)); have n3_ := Aside0.mk ((by rw [hg]; exact (below_size (by repeat (first | (with_reducible first | exact HB.out | apply below_alloc | apply pw_below_drewN | apply below_drew1) | exact HB.out))) : w.heap.size ≤ gb122)); clear HB; have HB := n0_; have BK122 := n1_; have GW122 := n2_; have GE122 := n3_; clear n0_ n1_ n2_ n3_; clear hb hbox hg; have hcz85_0 : w84.cell? ⟨gb122, 0, none⟩ = some (.int .u8 0) := (blk_cell BK122.out 0).trans rfl; have hcz85_1 : w84.cell? ⟨gb122, 1, none⟩ = some (.int .u8 0) := (blk_cell BK122.out 1).trans rfl; have hcz85_2 : w84.cell? ⟨gb122, 2, none⟩ = some (.int .u8 0) := (blk_cell BK122.out 2).trans rfl; have hcz85_3 : w84.cell? ⟨gb122, 3, none⟩ = some (.int .i16 0) := (blk_cell BK122.out 3).trans rfl; have hcz85_4 : w84.cell? ⟨gb122, 4, none⟩ = some (.int .i32 0) := (blk_cell BK122.out 4).trans rfl; have hfz85_0 := blk_frozen BK122.out 0; have hfz85_1 := blk_frozen BK122.out 1; have hfz85_2 := blk_frozen BK122.out 2; have hfz85_3 := blk_frozen BK122.out 3; have hfz85_4 := blk_frozen BK122.out 4) | ((with_reducible refine gate_callee (f := 17) rfl ?_); refine goesL_ (some 16) rfl rfl Try.func17 (by kernel_rfl) rfl #[.slice (some ad121) l0.length c0, .int .i64 a1] rfl (by (try simp only [List.map_toArray, List.map_cons, List.map_nil]); first | done | rfl | (simp only [List.length_drop, List.length_take]; rfl)) ?_; (with_reducible refine (isa_Second.calls k _ _ l0 a1 false _ ?side1 ?side2 A6.out).mono ?_); (case side1 => exact Kd.C_below HR0.out (by repeat (first | (with_reducible first | exact HB.out | apply below_alloc | apply pw_below_drewN | apply below_drew1 | refine below_set ?_ GE122.out) | exact HB.out))); (case side2 => exact HC0.out); rintro e w86 ⟨rfl, hb⟩; refine ⟨_, rfl, ?_⟩; have n0_ := Aside0.mk (blk_below (g := gb122) (o := .cells #[.int .u8 ((rd_T24 l0 a1).f0), .int .u8 ((rd_T24 l0 a1).f1), .int .u8 ((rd_T24 l0 a1).f2), .int .i16 ((rd_T24 l0 a1).f3), .int .i32 ((rd_T24 l0 a1).f4)] 24 (0, 0)) (by (with_reducible repeat (first | refine blk_drewN ?_ _ | refine blk_drew ?_ | refine blk_alloc ?_ _)); refine blk_put (cs := #[.int .u8 ((rd_T24 l0 a1).f0), .int .u8 ((rd_T24 l0 a1).f1), .int .u8 ((rd_T24 l0 a1).f2), .int .i16 ((rd_T24 l0 a1).f3), .int .i32 0]) ?_ 4 _ rfl; (with_reducible repeat (first | refine blk_drewN ?_ _ | refine blk_drew ?_ | refine blk_alloc ?_ _)); refine blk_put (cs := #[.int .u8 ((rd_T24 l0 a1).f0), .int .u8 ((rd_T24 l0 a1).f1), .int .u8 ((rd_T24 l0 a1).f2), .int .i16 0, .int .i32 0]) ?_ 3 _ rfl; (with_reducible repeat (first | refine blk_drewN ?_ _ | refine blk_drew ?_ | refine blk_alloc ?_ _)); refine blk_put (cs := #[.int .u8 ((rd_T24 l0 a1).f0), .int .u8 ((rd_T24 l0 a1).f1), .int .u8 0, .int .i16 0, .int .i32 0]) ?_ 2 _ rfl; (with_reducible repeat (first | refine blk_drewN ?_ _ | refine blk_drew ?_ | refine blk_alloc ?_ _)); refine blk_put (cs := #[.int .u8 ((rd_T24 l0 a1).f0), .int .u8 0, .int .u8 0, .int .i16 0, .int .i32 0]) ?_ 1 _ rfl; (with_reducible repeat (first | refine blk_drewN ?_ _ | refine blk_drew ?_ | refine blk_alloc ?_ _)); refine blk_put (cs := #[.int .u8 0, .int .u8 0, .int .u8 0, .int .i16 0, .int .i32 0]) ?_ 0 _ rfl; (with_reducible repeat (first | refine blk_drewN ?_ _ | refine blk_drew ?_ | refine blk_alloc ?_ _)); exact BK122.out) hb); have n1_ := Aside0.mk (below_step (by repeat (first | (with_reducible first | exact HB.out | apply below_alloc | apply pw_below_drewN | apply below_drew1 | refine below_set ?_ GE122.out) | exact HB.out)) hb); clear BK122; clear HB; have BK122 := n0_; have HB := n1_; clear n0_ n1_; (try clear hb); (try clear hb2); (try clear hk); (try clear hi); have hcz87_0 : w86.cell? ⟨gb122, 0, none⟩ = some (.int .u8 ((rd_T24 l0 a1).f0)) := (blk_cell BK122.out 0).trans rfl; have hcz87_1 : w86.cell? ⟨gb122, 1, none⟩ = some (.int .u8 ((rd_T24 l0 a1).f1)) := (blk_cell BK122.out 1).trans rfl; have hcz87_2 : w86.cell? ⟨gb122, 2, none⟩ = some (.int .u8 ((rd_T24 l0 a1).f2)) := (blk_cell BK122.out 2).trans rfl; have hcz87_3 : w86.cell? ⟨gb122, 3, none⟩ = some (.int .i16 ((rd_T24 l0 a1).f3)) := (blk_cell BK122.out 3).trans rfl; have hcz87_4 : w86.cell? ⟨gb122, 4, none⟩ = some (.int .i32 ((rd_T24 l0 a1).f4)) := (blk_cell BK122.out 4).trans rfl; have hfz87_0 := blk_frozen BK122.out 0; have hfz87_1 := blk_frozen BK122.out 1; have hfz87_2 := blk_frozen BK122.out 2; have hfz87_3 := blk_frozen BK122.out 3; have hfz87_4 := blk_frozen BK122.out 4) | ((with_reducible refine gate_callee (f := 10) rfl ?_); refine goesL_ (some 19) rfl rfl Try.func10 (by kernel_rfl) rfl #[.agg #[.int .u8 ((rd_T24 l0 a1).f0), .int .u8 ((rd_T24 l0 a1).f1), .int .u8 ((rd_T24 l0 a1).f2), .int .i16 ((rd_T24 l0 a1).f3), .int .i32 ((rd_T24 l0 a1).f4)]] rfl (by (try simp only [List.map_toArray, List.map_cons, List.map_nil]); first | done | rfl | (simp only [List.length_drop, List.length_take]; rfl)) ?_; (with_reducible refine (isa_Right.calls k ((rd_T24 l0 a1).f0) ((rd_T24 l0 a1).f1) ((rd_T24 l0 a1).f2) ((rd_T24 l0 a1).f3) ((rd_T24 l0 a1).f4) false _ A11.out).mono ?_); rintro e w88 ⟨rfl, hb⟩; refine ⟨_, rfl, ?_⟩; have n0_ := Aside0.mk (blk_below (g := gb122) (o := .cells #[.int .u8 ((rd_T24 l0 a1).f0), .int .u8 ((rd_T24 l0 a1).f1), .int .u8 ((rd_T24 l0 a1).f2), .int .i16 ((rd_T24 l0 a1).f3), .int .i32 ((rd_T24 l0 a1).f4)] 24 (0, 0)) (by (with_reducible repeat (first | refine blk_drewN ?_ _ | refine blk_drew ?_ | refine blk_alloc ?_ _)); exact BK122.out) hb); have n1_ := Aside0.mk (below_step (by repeat (first | (with_reducible first | exact HB.out | apply below_alloc | apply pw_below_drewN | apply below_drew1 | refine below_set ?_ GE122.out) | exact HB.out)) hb); clear BK122; clear HB; have BK122 := n0_; have HB := n1_; clear n0_ n1_; (try clear hb); (try clear hb2); (try clear hk); (try clear hi)))
          go_ret
          exact ⟨by first | rfl | (simp [errW_none, errW_some] <;> rfl) | (simp [*, errW_none, errW_some] <;> rfl), by repeat (first | (with_reducible first | exact HB.out | apply below_alloc | apply pw_below_drewN | apply below_drew1 | refine below_set ?_ GE122.out) | exact HB.out)⟩
    · rw [if_neg c5] at H
      exact absurd H (by simp)
  · rw [if_neg c4] at H
    exact absurd H (by simp)

end Go.Proofs.Ytkbngkhajkhfgaa.PIsaChecks
