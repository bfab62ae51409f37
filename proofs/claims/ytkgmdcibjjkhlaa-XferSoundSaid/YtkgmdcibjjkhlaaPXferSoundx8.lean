/- Functions of the program that some laws reach, as Lean functions, and proofs that the program's calls come to what they say: written by a program, for the texts that import it; each theorem bears its own conditions. -/
import Derived.Test.YtkgmdcibjjkhlaaPXferSoundx0
import Derived.Test.YtkgmdcibjjkhlaaPXferSoundx6
import Derived.Test.YtkgmdcibjjkhlaaPXferSoundx7
namespace Go.Proofs.Ytkgmdcibjjkhlaa.PXferSound
open Go.RowKit Go.Proofs.YtkgmdcibjjkhlaaW.PrintWords Go.Proofs.YtkgmdcibjjkhlaaW.PrintLast Go.Proofs.YtkgmdcibjjkhlaaW.PrintMore
attribute [local go_sem] max2_int min2_int max_two min_two max_three min_three max_four min_four   -- for this text's walks alone
set_option linter.unusedVariables false
set_option linter.unusedSimpArgs false

/-! ### halberdref07_Round: function 26 -/
open Go.Proofs.Hp Go.Proofs.Ev
def rr_up (b x : Int) : Int := if x < b then b else x
def rr_dn (b x : Int) : Int := if x > b then b else x
def rr_v (a b : Int) : Int := Go.bits .andNot .u64 a b
def rr_w (a b : Int) : Int := IntKind.u64.wrap (Go.bits .andNot .u64 a b + b)
def rr_end (k : Nat) (a0 a1 x2 x3 x4 x5 : Int) : Option (Int × Int × Int × Int × Int × Int × Bool) := if x2 > x3 ∨ x4 > x5 then halberdref07_All.f.bind fun l => some (l.1, l.2.1, l.2.2.1, l.2.2.2.1, l.2.2.2.2.1, l.2.2.2.2.2, false) else (halberdref06_Range.f k x2 x3).bind fun t => (halberdref06_Meet.f k a0 a1 t.1 t.2).bind fun m => if m.2.2 = true then some (m.1, m.2.1, x2, x3, x4, x5, true) else halberdref07_All.f.bind fun l => some (l.1, l.2.1, l.2.2.1, l.2.2.2.1, l.2.2.2.2.1, l.2.2.2.2.2, false)
def rr_sg (x4 x5 : Int) : Bool := (decide (x4 ≥ 0) && decide (x5 ≥ 0)) || (decide (x4 < 0) && decide (x5 < 0))
def rr_c (k : Nat) (a0 a1 x2 x3 x4 x5 : Int) : Option (Int × Int × Int × Int × Int × Int × Bool) := if rr_sg x4 x5 = true then rr_end k a0 a1 (rr_up (IntKind.u64.wrap x4) x2) (rr_dn (IntKind.u64.wrap x5) x3) x4 x5 else rr_end k a0 a1 x2 x3 x4 x5
def rr_b (k : Nat) (a0 a1 x2 x3 x4 x5 : Int) : Option (Int × Int × Int × Int × Int × Int × Bool) := if (IntKind.u64.wrap (Int.tdiv x2 9223372036854775808) == IntKind.u64.wrap (Int.tdiv x3 9223372036854775808)) = true then rr_c k a0 a1 x2 x3 (rr_up (wrap64 x2) x4) (rr_dn (wrap64 x3) x5) else rr_c k a0 a1 x2 x3 x4 x5
def rr_bit (v w : Int) : Bool := decide (w ≥ 9223372036854775808) && decide (v < 9223372036854775808)
def rr_a (k : Nat) (l m a0 a1 x2 x3 a4 a5 : Int) : Option (Int × Int × Int × Int × Int × Int × Bool) := rr_b k a0 a1 x2 x3 (rr_up (wrap64 l) a4) (rr_dn (wrap64 m) a5)
def halberdref07_Round.f (k : Nat) (a0_0 a0_1 a0_2 a0_3 a0_4 a0_5 : Int) : Option (Int × Int × Int × Int × Int × Int × Bool) := if rr_bit (rr_v a0_0 a0_1) (rr_w a0_0 a0_1) = true then rr_a k (IntKind.u64.wrap (rr_v a0_0 a0_1 + 9223372036854775808)) (IntKind.u64.wrap (rr_w a0_0 a0_1 - 9223372036854775808)) a0_0 a0_1 (rr_up (rr_v a0_0 a0_1) a0_2) (rr_dn (rr_w a0_0 a0_1) a0_3) a0_4 a0_5 else rr_a k (rr_v a0_0 a0_1) (rr_w a0_0 a0_1) a0_0 a0_1 (rr_up (rr_v a0_0 a0_1) a0_2) (rr_dn (rr_w a0_0 a0_1) a0_3) a0_4 a0_5
theorem rr_end.mono (k : Nat) (a0 a1 x2 x3 x4 x5 : Int) : LeO (rr_end k a0 a1 x2 x3 x4 x5) (rr_end (k + 1) a0 a1 x2 x3 x4 x5) := by
 unfold rr_end
 exact LeO.ite (LeO.refl _) (LeO.bind (halberdref06_Range.mono _ _ _) (fun t => LeO.bind (halberdref06_Meet.mono _ _ _ _ _) (fun m => LeO.refl _)))
theorem rr_a.mono (k : Nat) (l m a0 a1 x2 x3 a4 a5 : Int) : LeO (rr_a k l m a0 a1 x2 x3 a4 a5) (rr_a (k + 1) l m a0 a1 x2 x3 a4 a5) := by
 unfold rr_a rr_b rr_c
 exact LeO.ite (LeO.ite (rr_end.mono _ _ _ _ _ _ _) (rr_end.mono _ _ _ _ _ _ _)) (LeO.ite (rr_end.mono _ _ _ _ _ _ _) (rr_end.mono _ _ _ _ _ _ _))
theorem halberdref07_Round.mono : ∀ a0 a1 a2 a3 a4 a5 k, LeO (halberdref07_Round.f k a0 a1 a2 a3 a4 a5) (halberdref07_Round.f (k + 1) a0 a1 a2 a3 a4 a5) := by
 intro a0 a1 a2 a3 a4 a5 k
 unfold halberdref07_Round.f
 exact LeO.ite (rr_a.mono _ _ _ _ _ _ _ _ _) (rr_a.mono _ _ _ _ _ _ _ _ _)
set_option maxHeartbeats 8000000 in
set_option maxRecDepth 100000 in
theorem halberdref07_Round.calls (k : Nat) (a0_0 a0_1 a0_2 a0_3 a0_4 a0_5 : Int) (r1 r2 r3 r4 r5 r6 : Int) (r7 : Bool) (w : World) (h : halberdref07_Round.f k a0_0 a0_1 a0_2 a0_3 a0_4 a0_5 = some (r1, r2, r3, r4, r5, r6, r7)) :
  Calls Try.prog 26 #[.agg #[.int .u64 a0_0, .int .u64 a0_1, .int .u64 a0_2, .int .u64 a0_3, .int .i64 a0_4, .int .i64 a0_5]] w fun e w' => e = .returned (.tuple #[.agg #[.int .u64 r1, .int .u64 r2, .int .u64 r3, .int .u64 r4, .int .i64 r5, .int .i64 r6], .bool r7]) ∧ Below w.heap.size w w' := by
 have hu := Try.underlying26
 have hut := Try.underlying24
 have HO := Aside0.mk (Own.refl w)
 have HG := Aside0.mk h
 clear h
 go_enter Try.func26, Try.ntmps26
 go_upto_if 26 with (first | ((with_reducible refine gate_dst (N := 1) rfl ?_); refine own_box HO.out ?hg (N := 1) ?hd (cs := #[.int .u64 a0_0, .int .u64 a0_1, .int .u64 a0_2, .int .u64 a0_3, .int .i64 a0_4, .int .i64 a0_5]) (t := 26) ?hr ?_; (case hd => rfl); (case hg => rfl); (case hr => first | (go_simp; done) | (go_simp; rfl) | kernel_rfl); intro g1 w1 hO_; clear HO; have HO := Aside0.mk hO_; clear hO_) | ((with_reducible refine gate_dst (N := 2) rfl ?_); refine own_box HO.out ?hg (N := 2) ?hd (cs := #[.int .u64 0, .int .u64 0, .int .u64 0, .int .u64 0, .int .i64 0, .int .i64 0]) (t := 26) ?hr ?_; (case hd => rfl); (case hg => rfl); (case hr => first | (go_simp; done) | (go_simp; rfl) | kernel_rfl); intro g2 w2 hO_; clear HO; have HO := Aside0.mk hO_; clear hO_; have hz0 : World.cell? _ ⟨g1, 0, none⟩ = some (.int .u64 a0_0) := (HO.out.cell (by (repeat (first | exact .head | apply Ext.tail))) 0).trans rfl; have hz1 : World.cell? _ ⟨g1, 1, none⟩ = some (.int .u64 a0_1) := (HO.out.cell (by (repeat (first | exact .head | apply Ext.tail))) 1).trans rfl; have hz2 : World.cell? _ ⟨g1, 2, none⟩ = some (.int .u64 a0_2) := (HO.out.cell (by (repeat (first | exact .head | apply Ext.tail))) 2).trans rfl; have hz3 : World.cell? _ ⟨g1, 3, none⟩ = some (.int .u64 a0_3) := (HO.out.cell (by (repeat (first | exact .head | apply Ext.tail))) 3).trans rfl; have hz4 : World.cell? _ ⟨g1, 4, none⟩ = some (.int .i64 a0_4) := (HO.out.cell (by (repeat (first | exact .head | apply Ext.tail))) 4).trans rfl; have hz5 : World.cell? _ ⟨g1, 5, none⟩ = some (.int .i64 a0_5) := (HO.out.cell (by (repeat (first | exact .head | apply Ext.tail))) 5).trans rfl))
 (try simp only [Act.put, List.setIfInBounds_toArray, List.set_cons_zero, List.set_cons_succ])
 go_cut [] (fun wc => ∃ (x2 : Int), Aside0 (x2 = rr_up (Go.bits .andNot .u64 a0_0 a0_1) a0_2) ∧ Aside0 (Own w wc [(g1, .cells #[.int .u64 a0_0, .int .u64 a0_1, .int .u64 x2, .int .u64 a0_3, .int .i64 a0_4, .int .i64 a0_5] 26 (0, 0)), (g2, .cells #[.int .u64 0, .int .u64 0, .int .u64 0, .int .u64 0, .int .i64 0, .int .i64 0] 26 (0, 0))]))
 case first => as_aux_lemma =>
  by_cases c_ : a0_2 < Go.bits .andNot .u64 a0_0 a0_1
  ·have cb : decide (a0_2 < Go.bits .andNot .u64 a0_0 a0_1) = true := decide_eq_true c_
   have cd : (a0_2 < Go.bits .andNot .u64 a0_0 a0_1) = True := eq_true c_
   (first | rw [cb] | (simp only [i64_w, i32_w]; rw [cb]) | skip)
   clear c_
   go_wp2_with (first | ((with_reducible refine gate_store (p := 28) rfl ?_); refine own_store HO.out rfl (ty := 22) (x := .tmp 28) (y := .tmp 27) (v := .int .u64 (Go.bits .andNot .u64 a0_0 a0_1)) (cs' := #[.int .u64 a0_0, .int .u64 a0_1, .int .u64 (Go.bits .andNot .u64 a0_0 a0_1), .int .u64 a0_3, .int .i64 a0_4, .int .i64 a0_5]) rfl (by rfl) (by rfl) (by (repeat (first | exact .head | apply Ext.tail))) (by kernel_rfl) (by rfl) (by first | decide | (simp; done)) (by rfl) ?_; intro wc hO_; clear HO; have HO := Aside0.mk hO_; clear hO_))
   go_meet
   case rel => exact ⟨_, ⟨(if_pos (of_eq_true cd)).symm⟩, ⟨HO.out.picks (.cons (by (repeat (first | exact .head | apply Ext.tail))) (.cons (by (repeat (first | exact .head | apply Ext.tail))) (.nil)))⟩⟩
  ·have cb : decide (a0_2 < Go.bits .andNot .u64 a0_0 a0_1) = false := decide_eq_false c_
   have cd : (a0_2 < Go.bits .andNot .u64 a0_0 a0_1) = False := eq_false c_
   (first | rw [cb] | (simp only [i64_w, i32_w]; rw [cb]) | skip)
   clear c_
   go_wp2
   go_meet
   case rel => exact ⟨_, ⟨(if_neg (of_eq_false cd)).symm⟩, ⟨HO.out.picks (.cons (by (repeat (first | exact .head | apply Ext.tail))) (.cons (by (repeat (first | exact .head | apply Ext.tail))) (.nil)))⟩⟩
 case rest =>
  clear HO hz1 hz2 hz3 hz4 hz5
  obtain ⟨x2, Ex2, HO⟩ := hcut
  have hz1 : World.cell? _ ⟨g1, 1, none⟩ = some (.int .u64 a0_1) := (HO.out.cell (by (repeat (first | exact .head | apply Ext.tail))) 1).trans rfl
  have hz2 : World.cell? _ ⟨g1, 2, none⟩ = some (.int .u64 x2) := (HO.out.cell (by (repeat (first | exact .head | apply Ext.tail))) 2).trans rfl
  have hz3 : World.cell? _ ⟨g1, 3, none⟩ = some (.int .u64 a0_3) := (HO.out.cell (by (repeat (first | exact .head | apply Ext.tail))) 3).trans rfl
  have hz4 : World.cell? _ ⟨g1, 4, none⟩ = some (.int .i64 a0_4) := (HO.out.cell (by (repeat (first | exact .head | apply Ext.tail))) 4).trans rfl
  have hz5 : World.cell? _ ⟨g1, 5, none⟩ = some (.int .i64 a0_5) := (HO.out.cell (by (repeat (first | exact .head | apply Ext.tail))) 5).trans rfl
  go_upto_if 32 with (fail)
  (try simp only [Act.put, List.setIfInBounds_toArray, List.set_cons_zero, List.set_cons_succ])
  go_cut [] (fun wc => ∃ (x3 : Int), Aside0 (x3 = rr_dn (IntKind.u64.wrap (Go.bits .andNot .u64 a0_0 a0_1 + a0_1)) a0_3) ∧ Aside0 (Own w wc [(g1, .cells #[.int .u64 a0_0, .int .u64 a0_1, .int .u64 x2, .int .u64 x3, .int .i64 a0_4, .int .i64 a0_5] 26 (0, 0)), (g2, .cells #[.int .u64 0, .int .u64 0, .int .u64 0, .int .u64 0, .int .i64 0, .int .i64 0] 26 (0, 0))]))
  case first => as_aux_lemma =>
   by_cases c_ : a0_3 > IntKind.u64.wrap (Go.bits .andNot .u64 a0_0 a0_1 + a0_1)
   ·have cb : decide (a0_3 > IntKind.u64.wrap (Go.bits .andNot .u64 a0_0 a0_1 + a0_1)) = true := decide_eq_true c_
    have cd : (a0_3 > IntKind.u64.wrap (Go.bits .andNot .u64 a0_0 a0_1 + a0_1)) = True := eq_true c_
    (first | rw [cb] | (simp only [i64_w, i32_w]; rw [cb]) | skip)
    clear c_
    go_wp2_with (first | ((with_reducible refine gate_store (p := 34) rfl ?_); refine own_store HO.out rfl (ty := 22) (x := .tmp 34) (y := .tmp 33) (v := .int .u64 (IntKind.u64.wrap (Go.bits .andNot .u64 a0_0 a0_1 + a0_1))) (cs' := #[.int .u64 a0_0, .int .u64 a0_1, .int .u64 x2, .int .u64 (IntKind.u64.wrap (Go.bits .andNot .u64 a0_0 a0_1 + a0_1)), .int .i64 a0_4, .int .i64 a0_5]) rfl (by rfl) (by rfl) (by (repeat (first | exact .head | apply Ext.tail))) (by kernel_rfl) (by rfl) (by first | decide | (simp; done)) (by rfl) ?_; intro wc hO_; clear HO; have HO := Aside0.mk hO_; clear hO_))
    go_meet
    case rel => exact ⟨_, ⟨(if_pos (of_eq_true cd)).symm⟩, ⟨HO.out.picks (.cons (by (repeat (first | exact .head | apply Ext.tail))) (.cons (by (repeat (first | exact .head | apply Ext.tail))) (.nil)))⟩⟩
   ·have cb : decide (a0_3 > IntKind.u64.wrap (Go.bits .andNot .u64 a0_0 a0_1 + a0_1)) = false := decide_eq_false c_
    have cd : (a0_3 > IntKind.u64.wrap (Go.bits .andNot .u64 a0_0 a0_1 + a0_1)) = False := eq_false c_
    (first | rw [cb] | (simp only [i64_w, i32_w]; rw [cb]) | skip)
    clear c_
    go_wp2
    go_meet
    case rel => exact ⟨_, ⟨(if_neg (of_eq_false cd)).symm⟩, ⟨HO.out.picks (.cons (by (repeat (first | exact .head | apply Ext.tail))) (.cons (by (repeat (first | exact .head | apply Ext.tail))) (.nil)))⟩⟩
  case rest =>
   clear HO hz1 hz2 hz3 hz4 hz5
   obtain ⟨x3, Ex3, HO⟩ := hcut
   have hz1 : World.cell? _ ⟨g1, 1, none⟩ = some (.int .u64 a0_1) := (HO.out.cell (by (repeat (first | exact .head | apply Ext.tail))) 1).trans rfl
   have hz2 : World.cell? _ ⟨g1, 2, none⟩ = some (.int .u64 x2) := (HO.out.cell (by (repeat (first | exact .head | apply Ext.tail))) 2).trans rfl
   have hz3 : World.cell? _ ⟨g1, 3, none⟩ = some (.int .u64 x3) := (HO.out.cell (by (repeat (first | exact .head | apply Ext.tail))) 3).trans rfl
   have hz4 : World.cell? _ ⟨g1, 4, none⟩ = some (.int .i64 a0_4) := (HO.out.cell (by (repeat (first | exact .head | apply Ext.tail))) 4).trans rfl
   have hz5 : World.cell? _ ⟨g1, 5, none⟩ = some (.int .i64 a0_5) := (HO.out.cell (by (repeat (first | exact .head | apply Ext.tail))) 5).trans rfl
   go_upto_region 9 with (fail)
   go_cut [44] (fun v44 wc => ∃ (b : Bool), v44 = .bool b ∧ Aside0 (b = rr_bit (Go.bits .andNot .u64 a0_0 a0_1) (IntKind.u64.wrap (Go.bits .andNot .u64 a0_0 a0_1 + a0_1))) ∧ Aside0 (Own w wc [(g1, .cells #[.int .u64 a0_0, .int .u64 a0_1, .int .u64 x2, .int .u64 x3, .int .i64 a0_4, .int .i64 a0_5] 26 (0, 0)), (g2, .cells #[.int .u64 0, .int .u64 0, .int .u64 0, .int .u64 0, .int .i64 0, .int .i64 0] 26 (0, 0))]))
   case first => as_aux_lemma =>
    by_cases c1 : IntKind.u64.wrap (Go.bits .andNot .u64 a0_0 a0_1 + a0_1) ≥ 9223372036854775808
    ·have cb : decide (IntKind.u64.wrap (Go.bits .andNot .u64 a0_0 a0_1 + a0_1) ≥ 9223372036854775808) = true := decide_eq_true c1
     have cp : (IntKind.u64.wrap (Go.bits .andNot .u64 a0_0 a0_1 + a0_1) ≥ 9223372036854775808) = True := eq_true c1
     clear c1
     go_wp2
     go_meet
     case rel => exact ⟨_, rfl, ⟨by unfold rr_bit; rw [cb]; simp⟩, HO⟩
    ·have cb : decide (IntKind.u64.wrap (Go.bits .andNot .u64 a0_0 a0_1 + a0_1) ≥ 9223372036854775808) = false := decide_eq_false c1
     have cp : (IntKind.u64.wrap (Go.bits .andNot .u64 a0_0 a0_1 + a0_1) ≥ 9223372036854775808) = False := eq_false c1
     clear c1
     go_wp2
     go_meet
     case rel => exact ⟨_, rfl, ⟨by unfold rr_bit; rw [cb]; rfl⟩, HO⟩
   case rest =>
    clear HO
    obtain ⟨b, rfl, EB, HO⟩ := hcut
    have HG2 : Aside0 ((if b = true then rr_a k (IntKind.u64.wrap (Go.bits .andNot .u64 a0_0 a0_1 + 9223372036854775808)) (IntKind.u64.wrap (IntKind.u64.wrap (Go.bits .andNot .u64 a0_0 a0_1 + a0_1) - 9223372036854775808)) a0_0 a0_1 x2 x3 a0_4 a0_5 else rr_a k (Go.bits .andNot .u64 a0_0 a0_1) (IntKind.u64.wrap (Go.bits .andNot .u64 a0_0 a0_1 + a0_1)) a0_0 a0_1 x2 x3 a0_4 a0_5) = some (r1, r2, r3, r4, r5, r6, r7)) := ⟨by rw [EB.out, Ex2.out, Ex3.out]; exact HG.out⟩
    clear HG EB Ex2 Ex3
    go_upto_if 44 with (fail)
    go_cut [7, 8] (fun v7 v8 wc => ∃ (l m : Int), v7 = .int .u64 l ∧ v8 = .int .u64 m ∧ Aside0 (rr_a k l m a0_0 a0_1 x2 x3 a0_4 a0_5 = some (r1, r2, r3, r4, r5, r6, r7)) ∧ Aside0 (Own w wc [(g1, .cells #[.int .u64 a0_0, .int .u64 a0_1, .int .u64 x2, .int .u64 x3, .int .i64 a0_4, .int .i64 a0_5] 26 (0, 0)), (g2, .cells #[.int .u64 0, .int .u64 0, .int .u64 0, .int .u64 0, .int .i64 0, .int .i64 0] 26 (0, 0))]))
    case first => as_aux_lemma =>
     have HG := HG2.out
     clear HG2
     cases b with
     | true =>
      rw [if_pos rfl] at HG
      have HG3 := Aside0.mk HG
      clear HG
      go_wp2
      go_meet
      case rel => exact ⟨_, _, rfl, rfl, HG3, HO⟩
     | false =>
      rw [if_neg Bool.false_ne_true] at HG
      have HG3 := Aside0.mk HG
      clear HG
      go_wp2
      go_meet
      case rel => exact ⟨_, _, rfl, rfl, HG3, HO⟩
    case rest =>
     clear HO hz1 hz2 hz3 hz4 hz5 HG2
     obtain ⟨l, m, rfl, rfl, HG, HO⟩ := hcut
     have hz1 : World.cell? _ ⟨g1, 1, none⟩ = some (.int .u64 a0_1) := (HO.out.cell (by (repeat (first | exact .head | apply Ext.tail))) 1).trans rfl
     have hz2 : World.cell? _ ⟨g1, 2, none⟩ = some (.int .u64 x2) := (HO.out.cell (by (repeat (first | exact .head | apply Ext.tail))) 2).trans rfl
     have hz3 : World.cell? _ ⟨g1, 3, none⟩ = some (.int .u64 x3) := (HO.out.cell (by (repeat (first | exact .head | apply Ext.tail))) 3).trans rfl
     have hz4 : World.cell? _ ⟨g1, 4, none⟩ = some (.int .i64 a0_4) := (HO.out.cell (by (repeat (first | exact .head | apply Ext.tail))) 4).trans rfl
     have hz5 : World.cell? _ ⟨g1, 5, none⟩ = some (.int .i64 a0_5) := (HO.out.cell (by (repeat (first | exact .head | apply Ext.tail))) 5).trans rfl
     go_upto_if 55 with (fail)
     (try simp only [Act.put, List.setIfInBounds_toArray, List.set_cons_zero, List.set_cons_succ])
     go_cut [] (fun wc => ∃ (x4 : Int), Aside0 (x4 = rr_up (wrap64 l) a0_4) ∧ Aside0 (Own w wc [(g1, .cells #[.int .u64 a0_0, .int .u64 a0_1, .int .u64 x2, .int .u64 x3, .int .i64 x4, .int .i64 a0_5] 26 (0, 0)), (g2, .cells #[.int .u64 0, .int .u64 0, .int .u64 0, .int .u64 0, .int .i64 0, .int .i64 0] 26 (0, 0))]))
     case first => as_aux_lemma =>
      by_cases c_ : a0_4 < wrap64 l
      ·have cb : decide (a0_4 < wrap64 l) = true := decide_eq_true c_
       have cd : (a0_4 < wrap64 l) = True := eq_true c_
       (first | rw [cb] | (simp only [i64_w, i32_w]; rw [cb]) | skip)
       clear c_
       go_wp2_with (first | ((with_reducible refine gate_store (p := 58) rfl ?_); refine own_store HO.out rfl (ty := 2) (x := .tmp 58) (y := .tmp 57) (v := .int .i64 (wrap64 l)) (cs' := #[.int .u64 a0_0, .int .u64 a0_1, .int .u64 x2, .int .u64 x3, .int .i64 (wrap64 l), .int .i64 a0_5]) rfl (by rfl) (by rfl) (by (repeat (first | exact .head | apply Ext.tail))) (by kernel_rfl) (by rfl) (by first | decide | (simp; done)) (by rfl) ?_; intro wc hO_; clear HO; have HO := Aside0.mk hO_; clear hO_))
       go_meet
       case rel => exact ⟨_, ⟨(if_pos (of_eq_true cd)).symm⟩, ⟨HO.out.picks (.cons (by (repeat (first | exact .head | apply Ext.tail))) (.cons (by (repeat (first | exact .head | apply Ext.tail))) (.nil)))⟩⟩
      ·have cb : decide (a0_4 < wrap64 l) = false := decide_eq_false c_
       have cd : (a0_4 < wrap64 l) = False := eq_false c_
       (first | rw [cb] | (simp only [i64_w, i32_w]; rw [cb]) | skip)
       clear c_
       go_wp2
       go_meet
       case rel => exact ⟨_, ⟨(if_neg (of_eq_false cd)).symm⟩, ⟨HO.out.picks (.cons (by (repeat (first | exact .head | apply Ext.tail))) (.cons (by (repeat (first | exact .head | apply Ext.tail))) (.nil)))⟩⟩
     case rest =>
      clear HO hz1 hz2 hz3 hz4 hz5
      obtain ⟨x4, Ex4, HO⟩ := hcut
      have hz1 : World.cell? _ ⟨g1, 1, none⟩ = some (.int .u64 a0_1) := (HO.out.cell (by (repeat (first | exact .head | apply Ext.tail))) 1).trans rfl
      have hz2 : World.cell? _ ⟨g1, 2, none⟩ = some (.int .u64 x2) := (HO.out.cell (by (repeat (first | exact .head | apply Ext.tail))) 2).trans rfl
      have hz3 : World.cell? _ ⟨g1, 3, none⟩ = some (.int .u64 x3) := (HO.out.cell (by (repeat (first | exact .head | apply Ext.tail))) 3).trans rfl
      have hz4 : World.cell? _ ⟨g1, 4, none⟩ = some (.int .i64 x4) := (HO.out.cell (by (repeat (first | exact .head | apply Ext.tail))) 4).trans rfl
      have hz5 : World.cell? _ ⟨g1, 5, none⟩ = some (.int .i64 a0_5) := (HO.out.cell (by (repeat (first | exact .head | apply Ext.tail))) 5).trans rfl
      go_upto_if 63 with (fail)
      (try simp only [Act.put, List.setIfInBounds_toArray, List.set_cons_zero, List.set_cons_succ])
      go_cut [] (fun wc => ∃ (x5 : Int), Aside0 (x5 = rr_dn (wrap64 m) a0_5) ∧ Aside0 (Own w wc [(g1, .cells #[.int .u64 a0_0, .int .u64 a0_1, .int .u64 x2, .int .u64 x3, .int .i64 x4, .int .i64 x5] 26 (0, 0)), (g2, .cells #[.int .u64 0, .int .u64 0, .int .u64 0, .int .u64 0, .int .i64 0, .int .i64 0] 26 (0, 0))]))
      case first => as_aux_lemma =>
       by_cases c_ : a0_5 > wrap64 m
       ·have cb : decide (a0_5 > wrap64 m) = true := decide_eq_true c_
        have cd : (a0_5 > wrap64 m) = True := eq_true c_
        (first | rw [cb] | (simp only [i64_w, i32_w]; rw [cb]) | skip)
        clear c_
        go_wp2_with (first | ((with_reducible refine gate_store (p := 66) rfl ?_); refine own_store HO.out rfl (ty := 2) (x := .tmp 66) (y := .tmp 65) (v := .int .i64 (wrap64 m)) (cs' := #[.int .u64 a0_0, .int .u64 a0_1, .int .u64 x2, .int .u64 x3, .int .i64 x4, .int .i64 (wrap64 m)]) rfl (by rfl) (by rfl) (by (repeat (first | exact .head | apply Ext.tail))) (by kernel_rfl) (by rfl) (by first | decide | (simp; done)) (by rfl) ?_; intro wc hO_; clear HO; have HO := Aside0.mk hO_; clear hO_))
        go_meet
        case rel => exact ⟨_, ⟨(if_pos (of_eq_true cd)).symm⟩, ⟨HO.out.picks (.cons (by (repeat (first | exact .head | apply Ext.tail))) (.cons (by (repeat (first | exact .head | apply Ext.tail))) (.nil)))⟩⟩
       ·have cb : decide (a0_5 > wrap64 m) = false := decide_eq_false c_
        have cd : (a0_5 > wrap64 m) = False := eq_false c_
        (first | rw [cb] | (simp only [i64_w, i32_w]; rw [cb]) | skip)
        clear c_
        go_wp2
        go_meet
        case rel => exact ⟨_, ⟨(if_neg (of_eq_false cd)).symm⟩, ⟨HO.out.picks (.cons (by (repeat (first | exact .head | apply Ext.tail))) (.cons (by (repeat (first | exact .head | apply Ext.tail))) (.nil)))⟩⟩
      case rest =>
       clear HO hz1 hz2 hz3 hz4 hz5
       obtain ⟨x5, Ex5, HO⟩ := hcut
       have HG2 : Aside0 (rr_b k a0_0 a0_1 x2 x3 x4 x5 = some (r1, r2, r3, r4, r5, r6, r7)) := ⟨by rw [Ex4.out, Ex5.out]; exact HG.out⟩
       clear HG Ex4 Ex5
       have hz1 : World.cell? _ ⟨g1, 1, none⟩ = some (.int .u64 a0_1) := (HO.out.cell (by (repeat (first | exact .head | apply Ext.tail))) 1).trans rfl
       have hz2 : World.cell? _ ⟨g1, 2, none⟩ = some (.int .u64 x2) := (HO.out.cell (by (repeat (first | exact .head | apply Ext.tail))) 2).trans rfl
       have hz3 : World.cell? _ ⟨g1, 3, none⟩ = some (.int .u64 x3) := (HO.out.cell (by (repeat (first | exact .head | apply Ext.tail))) 3).trans rfl
       have hz4 : World.cell? _ ⟨g1, 4, none⟩ = some (.int .i64 x4) := (HO.out.cell (by (repeat (first | exact .head | apply Ext.tail))) 4).trans rfl
       have hz5 : World.cell? _ ⟨g1, 5, none⟩ = some (.int .i64 x5) := (HO.out.cell (by (repeat (first | exact .head | apply Ext.tail))) 5).trans rfl
       go_upto_region 16 with (fail)
       refine start_ (n := 9) (S := fun W => Own w W [(g1, .cells #[.int .u64 a0_0, .int .u64 a0_1, .int .u64 x2, .int .u64 x3, .int .i64 x4, .int .i64 x5] 26 (0, 0))]) (ds := []) #[false, false, false, false, false, false, false, false, false] (by kernel_rfl) rfl rfl (Own.drew (HO.out.picks (.cons (by (repeat (first | exact .head | apply Ext.tail))) (.nil)))) (fun hHeld => ?_)
       have HO_ := Aside0.mk HO.out.drew
       clear HO
       have HO := HO_
       clear HO_
       generalize World.drew _ = wr at HO hHeld ⊢
       refine Hp.pu_ 0 67 (Hp.up 9 1) ?_
       refine take_ (i := 1) (N := some 68) (v := .int .u64 x2) (a' := ?_) (Hp.up 9 2) rfl rfl (by kernel_rfl) (fun _ _ _ h => h) (own_yield1 (by rfl) (x := .tmp 67) rfl (by rfl) (.head) Try.underlying22 (by rfl) (by rfl)) hHeld ?_ ?_
       rotate_left
       ·simp only [Act.put, List.setIfInBounds_toArray, List.set_cons_zero, List.set_cons_succ, i64_w, i32_w]
        rfl
       refine Hp.pu_ 2 69 (Hp.up 9 3) ?_
       refine Hp.pu_ 3 70 (Hp.up 9 4) ?_
       refine Hp.pu_ 4 71 (Hp.up 9 5) ?_
       refine take_ (i := 5) (N := some 72) (v := .int .u64 x3) (a' := ?_) (Hp.up 9 6) rfl rfl (by kernel_rfl) (fun _ _ _ h => h) (own_yield1 (by rfl) (x := .tmp 71) rfl (by rfl) (.head) Try.underlying22 (by rfl) (by rfl)) hHeld ?_ ?_
       rotate_left
       ·simp only [Act.put, List.setIfInBounds_toArray, List.set_cons_zero, List.set_cons_succ, i64_w, i32_w]
        rfl
       refine Hp.pu_ 6 73 (Hp.up 9 7) ?_
       refine Hp.pu_ 7 74 (Hp.up 9 8) ?_
       refine Hp.pu_ 8 75 (Hp.up 9 9) ?_
       refine done_ (by kernel_rfl) ?_
       clear hHeld
       clear hz1 hz2 hz3 hz4 hz5
       have hz1 : World.cell? _ ⟨g1, 1, none⟩ = some (.int .u64 a0_1) := (HO.out.cell (by (repeat (first | exact .head | apply Ext.tail))) 1).trans rfl
       have hz2 : World.cell? _ ⟨g1, 2, none⟩ = some (.int .u64 x2) := (HO.out.cell (by (repeat (first | exact .head | apply Ext.tail))) 2).trans rfl
       have hz3 : World.cell? _ ⟨g1, 3, none⟩ = some (.int .u64 x3) := (HO.out.cell (by (repeat (first | exact .head | apply Ext.tail))) 3).trans rfl
       have hz4 : World.cell? _ ⟨g1, 4, none⟩ = some (.int .i64 x4) := (HO.out.cell (by (repeat (first | exact .head | apply Ext.tail))) 4).trans rfl
       have hz5 : World.cell? _ ⟨g1, 5, none⟩ = some (.int .i64 x5) := (HO.out.cell (by (repeat (first | exact .head | apply Ext.tail))) 5).trans rfl
       go_upto_if 75 with (fail)
       go_cut [] (fun wc => ∃ (y4 y5 : Int), Aside0 (rr_c k a0_0 a0_1 x2 x3 y4 y5 = some (r1, r2, r3, r4, r5, r6, r7)) ∧ Aside0 (Own w wc [(g1, .cells #[.int .u64 a0_0, .int .u64 a0_1, .int .u64 x2, .int .u64 x3, .int .i64 y4, .int .i64 y5] 26 (0, 0)), (g2, .cells #[.int .u64 0, .int .u64 0, .int .u64 0, .int .u64 0, .int .i64 0, .int .i64 0] 26 (0, 0))]))
       case first => as_aux_lemma =>
        have HG := HG2.out
        clear HG2
        unfold rr_b at HG
        by_cases c0 : (IntKind.u64.wrap (Int.tdiv x2 9223372036854775808) == IntKind.u64.wrap (Int.tdiv x3 9223372036854775808)) = true
        ·rw [if_pos c0] at HG
         rw [c0]
         clear c0
         by_cases c1 : x4 < wrap64 x2
         ·skip
          have cb1 : decide (x4 < wrap64 x2) = true := decide_eq_true c1
          have cd1 : (x4 < wrap64 x2) = True := eq_true c1
          have ca1 : rr_up (wrap64 x2) x4 = wrap64 x2 := if_pos c1
          by_cases c2 : x5 > wrap64 x3
          ·skip
           have cb2 : decide (x5 > wrap64 x3) = true := decide_eq_true c2
           have cd2 : (x5 > wrap64 x3) = True := eq_true c2
           have ca2 : rr_dn (wrap64 x3) x5 = wrap64 x3 := if_pos c2
           have h_ := HG
           rw [ca1, ca2] at h_
           have HG3 := Aside0.mk h_
           clear h_ HG ca1 ca2 c1 c2
           go_wp2_with (first | ((with_reducible refine gate_store (p := 85) rfl ?_); refine own_store HO.out rfl (ty := 2) (x := .tmp 85) (y := .tmp 84) (v := .int .i64 (wrap64 x2)) (cs' := #[.int .u64 a0_0, .int .u64 a0_1, .int .u64 x2, .int .u64 x3, .int .i64 (wrap64 x2), .int .i64 x5]) rfl (by rfl) (by rfl) (by (repeat (first | exact .head | apply Ext.tail))) (by kernel_rfl) (by rfl) (by first | decide | (simp; done)) (by rfl) ?_; intro wc hO_; clear HO; have HO := Aside0.mk hO_; clear hO_; (try clear hz1 hz2 hz3 hz4 hz5); have hz1 : World.cell? _ ⟨g1, 1, none⟩ = some (.int .u64 (a0_1)) := (HO.out.cell (by (repeat (first | exact .head | apply Ext.tail))) 1).trans rfl; have hz2 : World.cell? _ ⟨g1, 2, none⟩ = some (.int .u64 (x2)) := (HO.out.cell (by (repeat (first | exact .head | apply Ext.tail))) 2).trans rfl; have hz3 : World.cell? _ ⟨g1, 3, none⟩ = some (.int .u64 (x3)) := (HO.out.cell (by (repeat (first | exact .head | apply Ext.tail))) 3).trans rfl; have hz4 : World.cell? _ ⟨g1, 4, none⟩ = some (.int .i64 (wrap64 x2)) := (HO.out.cell (by (repeat (first | exact .head | apply Ext.tail))) 4).trans rfl; have hz5 : World.cell? _ ⟨g1, 5, none⟩ = some (.int .i64 (x5)) := (HO.out.cell (by (repeat (first | exact .head | apply Ext.tail))) 5).trans rfl) | ((with_reducible refine gate_store (p := 95) rfl ?_); refine own_store HO.out rfl (ty := 2) (x := .tmp 95) (y := .tmp 94) (v := .int .i64 (wrap64 x3)) (cs' := #[.int .u64 a0_0, .int .u64 a0_1, .int .u64 x2, .int .u64 x3, .int .i64 (wrap64 x2), .int .i64 (wrap64 x3)]) rfl (by rfl) (by rfl) (by (repeat (first | exact .head | apply Ext.tail))) (by kernel_rfl) (by rfl) (by first | decide | (simp; done)) (by rfl) ?_; intro wc hO_; clear HO; have HO := Aside0.mk hO_; clear hO_; (try clear hz1 hz2 hz3 hz4 hz5); have hz1 : World.cell? _ ⟨g1, 1, none⟩ = some (.int .u64 (a0_1)) := (HO.out.cell (by (repeat (first | exact .head | apply Ext.tail))) 1).trans rfl; have hz2 : World.cell? _ ⟨g1, 2, none⟩ = some (.int .u64 (x2)) := (HO.out.cell (by (repeat (first | exact .head | apply Ext.tail))) 2).trans rfl; have hz3 : World.cell? _ ⟨g1, 3, none⟩ = some (.int .u64 (x3)) := (HO.out.cell (by (repeat (first | exact .head | apply Ext.tail))) 3).trans rfl; have hz4 : World.cell? _ ⟨g1, 4, none⟩ = some (.int .i64 (wrap64 x2)) := (HO.out.cell (by (repeat (first | exact .head | apply Ext.tail))) 4).trans rfl; have hz5 : World.cell? _ ⟨g1, 5, none⟩ = some (.int .i64 (wrap64 x3)) := (HO.out.cell (by (repeat (first | exact .head | apply Ext.tail))) 5).trans rfl))
           go_meet
           case rel => exact ⟨_, _, HG3, ⟨HO.out.picks (.cons (by (repeat (first | exact .head | apply Ext.tail))) (.cons (by (repeat (first | exact .head | apply Ext.tail))) (.nil)))⟩⟩
          ·skip
           have cb2 : decide (x5 > wrap64 x3) = false := decide_eq_false c2
           have cd2 : (x5 > wrap64 x3) = False := eq_false c2
           have ca2 : rr_dn (wrap64 x3) x5 = x5 := if_neg c2
           have h_ := HG
           rw [ca1, ca2] at h_
           have HG3 := Aside0.mk h_
           clear h_ HG ca1 ca2 c1 c2
           go_wp2_with (first | ((with_reducible refine gate_store (p := 85) rfl ?_); refine own_store HO.out rfl (ty := 2) (x := .tmp 85) (y := .tmp 84) (v := .int .i64 (wrap64 x2)) (cs' := #[.int .u64 a0_0, .int .u64 a0_1, .int .u64 x2, .int .u64 x3, .int .i64 (wrap64 x2), .int .i64 x5]) rfl (by rfl) (by rfl) (by (repeat (first | exact .head | apply Ext.tail))) (by kernel_rfl) (by rfl) (by first | decide | (simp; done)) (by rfl) ?_; intro wc hO_; clear HO; have HO := Aside0.mk hO_; clear hO_; (try clear hz1 hz2 hz3 hz4 hz5); have hz1 : World.cell? _ ⟨g1, 1, none⟩ = some (.int .u64 (a0_1)) := (HO.out.cell (by (repeat (first | exact .head | apply Ext.tail))) 1).trans rfl; have hz2 : World.cell? _ ⟨g1, 2, none⟩ = some (.int .u64 (x2)) := (HO.out.cell (by (repeat (first | exact .head | apply Ext.tail))) 2).trans rfl; have hz3 : World.cell? _ ⟨g1, 3, none⟩ = some (.int .u64 (x3)) := (HO.out.cell (by (repeat (first | exact .head | apply Ext.tail))) 3).trans rfl; have hz4 : World.cell? _ ⟨g1, 4, none⟩ = some (.int .i64 (wrap64 x2)) := (HO.out.cell (by (repeat (first | exact .head | apply Ext.tail))) 4).trans rfl; have hz5 : World.cell? _ ⟨g1, 5, none⟩ = some (.int .i64 (x5)) := (HO.out.cell (by (repeat (first | exact .head | apply Ext.tail))) 5).trans rfl))
           go_meet
           case rel => exact ⟨_, _, HG3, ⟨HO.out.picks (.cons (by (repeat (first | exact .head | apply Ext.tail))) (.cons (by (repeat (first | exact .head | apply Ext.tail))) (.nil)))⟩⟩
         ·skip
          have cb1 : decide (x4 < wrap64 x2) = false := decide_eq_false c1
          have cd1 : (x4 < wrap64 x2) = False := eq_false c1
          have ca1 : rr_up (wrap64 x2) x4 = x4 := if_neg c1
          by_cases c2 : x5 > wrap64 x3
          ·skip
           have cb2 : decide (x5 > wrap64 x3) = true := decide_eq_true c2
           have cd2 : (x5 > wrap64 x3) = True := eq_true c2
           have ca2 : rr_dn (wrap64 x3) x5 = wrap64 x3 := if_pos c2
           have h_ := HG
           rw [ca1, ca2] at h_
           have HG3 := Aside0.mk h_
           clear h_ HG ca1 ca2 c1 c2
           go_wp2_with (first | ((with_reducible refine gate_store (p := 95) rfl ?_); refine own_store HO.out rfl (ty := 2) (x := .tmp 95) (y := .tmp 94) (v := .int .i64 (wrap64 x3)) (cs' := #[.int .u64 a0_0, .int .u64 a0_1, .int .u64 x2, .int .u64 x3, .int .i64 x4, .int .i64 (wrap64 x3)]) rfl (by rfl) (by rfl) (by (repeat (first | exact .head | apply Ext.tail))) (by kernel_rfl) (by rfl) (by first | decide | (simp; done)) (by rfl) ?_; intro wc hO_; clear HO; have HO := Aside0.mk hO_; clear hO_; (try clear hz1 hz2 hz3 hz4 hz5); have hz1 : World.cell? _ ⟨g1, 1, none⟩ = some (.int .u64 (a0_1)) := (HO.out.cell (by (repeat (first | exact .head | apply Ext.tail))) 1).trans rfl; have hz2 : World.cell? _ ⟨g1, 2, none⟩ = some (.int .u64 (x2)) := (HO.out.cell (by (repeat (first | exact .head | apply Ext.tail))) 2).trans rfl; have hz3 : World.cell? _ ⟨g1, 3, none⟩ = some (.int .u64 (x3)) := (HO.out.cell (by (repeat (first | exact .head | apply Ext.tail))) 3).trans rfl; have hz4 : World.cell? _ ⟨g1, 4, none⟩ = some (.int .i64 (x4)) := (HO.out.cell (by (repeat (first | exact .head | apply Ext.tail))) 4).trans rfl; have hz5 : World.cell? _ ⟨g1, 5, none⟩ = some (.int .i64 (wrap64 x3)) := (HO.out.cell (by (repeat (first | exact .head | apply Ext.tail))) 5).trans rfl))
           go_meet
           case rel => exact ⟨_, _, HG3, ⟨HO.out.picks (.cons (by (repeat (first | exact .head | apply Ext.tail))) (.cons (by (repeat (first | exact .head | apply Ext.tail))) (.nil)))⟩⟩
          ·skip
           have cb2 : decide (x5 > wrap64 x3) = false := decide_eq_false c2
           have cd2 : (x5 > wrap64 x3) = False := eq_false c2
           have ca2 : rr_dn (wrap64 x3) x5 = x5 := if_neg c2
           have h_ := HG
           rw [ca1, ca2] at h_
           have HG3 := Aside0.mk h_
           clear h_ HG ca1 ca2 c1 c2
           go_wp2
           go_meet
           case rel => exact ⟨_, _, HG3, ⟨HO.out.picks (.cons (by (repeat (first | exact .head | apply Ext.tail))) (.cons (by (repeat (first | exact .head | apply Ext.tail))) (.nil)))⟩⟩
        ·rw [if_neg c0] at HG
         have c0 : (IntKind.u64.wrap (Int.tdiv x2 9223372036854775808) == IntKind.u64.wrap (Int.tdiv x3 9223372036854775808)) = false := by simpa using c0
         rw [c0]
         clear c0
         have HG3 := Aside0.mk HG
         clear HG
         go_wp2
         go_meet
         case rel => exact ⟨_, _, HG3, ⟨HO.out.picks (.cons (by (repeat (first | exact .head | apply Ext.tail))) (.cons (by (repeat (first | exact .head | apply Ext.tail))) (.nil)))⟩⟩
       case rest =>
        clear HO hz1 hz2 hz3 hz4 hz5 HG2
        obtain ⟨y4, y5, HG, HO⟩ := hcut
        have hz1 : World.cell? _ ⟨g1, 1, none⟩ = some (.int .u64 a0_1) := (HO.out.cell (by (repeat (first | exact .head | apply Ext.tail))) 1).trans rfl
        have hz2 : World.cell? _ ⟨g1, 2, none⟩ = some (.int .u64 x2) := (HO.out.cell (by (repeat (first | exact .head | apply Ext.tail))) 2).trans rfl
        have hz3 : World.cell? _ ⟨g1, 3, none⟩ = some (.int .u64 x3) := (HO.out.cell (by (repeat (first | exact .head | apply Ext.tail))) 3).trans rfl
        have hz4 : World.cell? _ ⟨g1, 4, none⟩ = some (.int .i64 y4) := (HO.out.cell (by (repeat (first | exact .head | apply Ext.tail))) 4).trans rfl
        have hz5 : World.cell? _ ⟨g1, 5, none⟩ = some (.int .i64 y5) := (HO.out.cell (by (repeat (first | exact .head | apply Ext.tail))) 5).trans rfl
        go_upto_region 21 with (fail)
        go_cut [113] (fun v113 wc => ∃ (b : Bool), v113 = .bool b ∧ Aside0 (b = rr_sg y4 y5) ∧ Aside0 (Own w wc [(g1, .cells #[.int .u64 a0_0, .int .u64 a0_1, .int .u64 x2, .int .u64 x3, .int .i64 y4, .int .i64 y5] 26 (0, 0)), (g2, .cells #[.int .u64 0, .int .u64 0, .int .u64 0, .int .u64 0, .int .i64 0, .int .i64 0] 26 (0, 0))]))
        case first => as_aux_lemma =>
         by_cases c1 : y4 ≥ 0
         ·skip
          have e1 : decide (y4 ≥ 0) = true := decide_eq_true c1
          have e2 : decide (y4 < 0) = false := decide_eq_false (by omega)
          have p1 : (y4 ≥ 0) = True := eq_true c1
          have p2 : (y4 < 0) = False := eq_false (by omega)
          by_cases c2 : y5 ≥ 0
          ·skip
           have e3 : decide (y5 ≥ 0) = true := decide_eq_true c2
           have e4 : decide (y5 < 0) = false := decide_eq_false (by omega)
           have p3 : (y5 ≥ 0) = True := eq_true c2
           have p4 : (y5 < 0) = False := eq_false (by omega)
           have es : rr_sg y4 y5 = true := by unfold rr_sg; rw [e1, e2, e3, e4]; rfl
           clear c1 c2
           go_wp2
           go_meet
           case rel => exact ⟨_, rfl, ⟨es.symm⟩, HO⟩
          ·skip
           have e3 : decide (y5 ≥ 0) = false := decide_eq_false c2
           have e4 : decide (y5 < 0) = true := decide_eq_true (by omega)
           have p3 : (y5 ≥ 0) = False := eq_false c2
           have p4 : (y5 < 0) = True := eq_true (by omega)
           have es : rr_sg y4 y5 = false := by unfold rr_sg; rw [e1, e2, e3, e4]; rfl
           clear c1 c2
           go_wp2
           go_meet
           case rel => exact ⟨_, rfl, ⟨es.symm⟩, HO⟩
         ·skip
          have e1 : decide (y4 ≥ 0) = false := decide_eq_false c1
          have e2 : decide (y4 < 0) = true := decide_eq_true (by omega)
          have p1 : (y4 ≥ 0) = False := eq_false c1
          have p2 : (y4 < 0) = True := eq_true (by omega)
          by_cases c2 : y5 ≥ 0
          ·skip
           have e3 : decide (y5 ≥ 0) = true := decide_eq_true c2
           have e4 : decide (y5 < 0) = false := decide_eq_false (by omega)
           have p3 : (y5 ≥ 0) = True := eq_true c2
           have p4 : (y5 < 0) = False := eq_false (by omega)
           have es : rr_sg y4 y5 = false := by unfold rr_sg; rw [e1, e2, e3, e4]; rfl
           clear c1 c2
           go_wp2
           go_meet
           case rel => exact ⟨_, rfl, ⟨es.symm⟩, HO⟩
          ·skip
           have e3 : decide (y5 ≥ 0) = false := decide_eq_false c2
           have e4 : decide (y5 < 0) = true := decide_eq_true (by omega)
           have p3 : (y5 ≥ 0) = False := eq_false c2
           have p4 : (y5 < 0) = True := eq_true (by omega)
           have es : rr_sg y4 y5 = true := by unfold rr_sg; rw [e1, e2, e3, e4]; rfl
           clear c1 c2
           go_wp2
           go_meet
           case rel => exact ⟨_, rfl, ⟨es.symm⟩, HO⟩
        case rest =>
         clear HO
         obtain ⟨b, rfl, EB, HO⟩ := hcut
         have HG2 : Aside0 ((if b = true then rr_end k a0_0 a0_1 (rr_up (IntKind.u64.wrap y4) x2) (rr_dn (IntKind.u64.wrap y5) x3) y4 y5 else rr_end k a0_0 a0_1 x2 x3 y4 y5) = some (r1, r2, r3, r4, r5, r6, r7)) := ⟨by rw [EB.out]; exact HG.out⟩
         clear HG EB
         clear hz1 hz2 hz3 hz4 hz5
         have hz1 : World.cell? _ ⟨g1, 1, none⟩ = some (.int .u64 a0_1) := (HO.out.cell (by (repeat (first | exact .head | apply Ext.tail))) 1).trans rfl
         have hz2 : World.cell? _ ⟨g1, 2, none⟩ = some (.int .u64 x2) := (HO.out.cell (by (repeat (first | exact .head | apply Ext.tail))) 2).trans rfl
         have hz3 : World.cell? _ ⟨g1, 3, none⟩ = some (.int .u64 x3) := (HO.out.cell (by (repeat (first | exact .head | apply Ext.tail))) 3).trans rfl
         have hz4 : World.cell? _ ⟨g1, 4, none⟩ = some (.int .i64 y4) := (HO.out.cell (by (repeat (first | exact .head | apply Ext.tail))) 4).trans rfl
         have hz5 : World.cell? _ ⟨g1, 5, none⟩ = some (.int .i64 y5) := (HO.out.cell (by (repeat (first | exact .head | apply Ext.tail))) 5).trans rfl
         go_upto_if 113 with (fail)
         go_cut [] (fun wc => ∃ (z2 z3 : Int), Aside0 (rr_end k a0_0 a0_1 z2 z3 y4 y5 = some (r1, r2, r3, r4, r5, r6, r7)) ∧ Aside0 (Own w wc [(g1, .cells #[.int .u64 a0_0, .int .u64 a0_1, .int .u64 z2, .int .u64 z3, .int .i64 y4, .int .i64 y5] 26 (0, 0)), (g2, .cells #[.int .u64 0, .int .u64 0, .int .u64 0, .int .u64 0, .int .i64 0, .int .i64 0] 26 (0, 0))]))
         case first => as_aux_lemma =>
          have HG := HG2.out
          clear HG2
          cases b with
          | true =>
           rw [if_pos rfl] at HG
           by_cases c1 : x2 < IntKind.u64.wrap y4
           ·skip
            have cb1 : decide (x2 < IntKind.u64.wrap y4) = true := decide_eq_true c1
            have cd1 : (x2 < IntKind.u64.wrap y4) = True := eq_true c1
            have ca1 : rr_up (IntKind.u64.wrap y4) x2 = IntKind.u64.wrap y4 := if_pos c1
            by_cases c2 : x3 > IntKind.u64.wrap y5
            ·skip
             have cb2 : decide (x3 > IntKind.u64.wrap y5) = true := decide_eq_true c2
             have cd2 : (x3 > IntKind.u64.wrap y5) = True := eq_true c2
             have ca2 : rr_dn (IntKind.u64.wrap y5) x3 = IntKind.u64.wrap y5 := if_pos c2
             have h_ := HG
             rw [ca1, ca2] at h_
             have HG3 := Aside0.mk h_
             clear h_ HG ca1 ca2 c1 c2
             go_wp2_with (first | ((with_reducible refine gate_store (p := 123) rfl ?_); refine own_store HO.out rfl (ty := 22) (x := .tmp 123) (y := .tmp 122) (v := .int .u64 (IntKind.u64.wrap y4)) (cs' := #[.int .u64 a0_0, .int .u64 a0_1, .int .u64 (IntKind.u64.wrap y4), .int .u64 x3, .int .i64 y4, .int .i64 y5]) rfl (by rfl) (by rfl) (by (repeat (first | exact .head | apply Ext.tail))) (by kernel_rfl) (by rfl) (by first | decide | (simp; done)) (by rfl) ?_; intro wc hO_; clear HO; have HO := Aside0.mk hO_; clear hO_; (try clear hz1 hz2 hz3 hz4 hz5); have hz1 : World.cell? _ ⟨g1, 1, none⟩ = some (.int .u64 (a0_1)) := (HO.out.cell (by (repeat (first | exact .head | apply Ext.tail))) 1).trans rfl; have hz2 : World.cell? _ ⟨g1, 2, none⟩ = some (.int .u64 (IntKind.u64.wrap y4)) := (HO.out.cell (by (repeat (first | exact .head | apply Ext.tail))) 2).trans rfl; have hz3 : World.cell? _ ⟨g1, 3, none⟩ = some (.int .u64 (x3)) := (HO.out.cell (by (repeat (first | exact .head | apply Ext.tail))) 3).trans rfl; have hz4 : World.cell? _ ⟨g1, 4, none⟩ = some (.int .i64 (y4)) := (HO.out.cell (by (repeat (first | exact .head | apply Ext.tail))) 4).trans rfl; have hz5 : World.cell? _ ⟨g1, 5, none⟩ = some (.int .i64 (y5)) := (HO.out.cell (by (repeat (first | exact .head | apply Ext.tail))) 5).trans rfl) | ((with_reducible refine gate_store (p := 133) rfl ?_); refine own_store HO.out rfl (ty := 22) (x := .tmp 133) (y := .tmp 132) (v := .int .u64 (IntKind.u64.wrap y5)) (cs' := #[.int .u64 a0_0, .int .u64 a0_1, .int .u64 (IntKind.u64.wrap y4), .int .u64 (IntKind.u64.wrap y5), .int .i64 y4, .int .i64 y5]) rfl (by rfl) (by rfl) (by (repeat (first | exact .head | apply Ext.tail))) (by kernel_rfl) (by rfl) (by first | decide | (simp; done)) (by rfl) ?_; intro wc hO_; clear HO; have HO := Aside0.mk hO_; clear hO_; (try clear hz1 hz2 hz3 hz4 hz5); have hz1 : World.cell? _ ⟨g1, 1, none⟩ = some (.int .u64 (a0_1)) := (HO.out.cell (by (repeat (first | exact .head | apply Ext.tail))) 1).trans rfl; have hz2 : World.cell? _ ⟨g1, 2, none⟩ = some (.int .u64 (IntKind.u64.wrap y4)) := (HO.out.cell (by (repeat (first | exact .head | apply Ext.tail))) 2).trans rfl; have hz3 : World.cell? _ ⟨g1, 3, none⟩ = some (.int .u64 (IntKind.u64.wrap y5)) := (HO.out.cell (by (repeat (first | exact .head | apply Ext.tail))) 3).trans rfl; have hz4 : World.cell? _ ⟨g1, 4, none⟩ = some (.int .i64 (y4)) := (HO.out.cell (by (repeat (first | exact .head | apply Ext.tail))) 4).trans rfl; have hz5 : World.cell? _ ⟨g1, 5, none⟩ = some (.int .i64 (y5)) := (HO.out.cell (by (repeat (first | exact .head | apply Ext.tail))) 5).trans rfl))
             go_meet
             case rel => exact ⟨_, _, HG3, ⟨HO.out.picks (.cons (by (repeat (first | exact .head | apply Ext.tail))) (.cons (by (repeat (first | exact .head | apply Ext.tail))) (.nil)))⟩⟩
            ·skip
             have cb2 : decide (x3 > IntKind.u64.wrap y5) = false := decide_eq_false c2
             have cd2 : (x3 > IntKind.u64.wrap y5) = False := eq_false c2
             have ca2 : rr_dn (IntKind.u64.wrap y5) x3 = x3 := if_neg c2
             have h_ := HG
             rw [ca1, ca2] at h_
             have HG3 := Aside0.mk h_
             clear h_ HG ca1 ca2 c1 c2
             go_wp2_with (first | ((with_reducible refine gate_store (p := 123) rfl ?_); refine own_store HO.out rfl (ty := 22) (x := .tmp 123) (y := .tmp 122) (v := .int .u64 (IntKind.u64.wrap y4)) (cs' := #[.int .u64 a0_0, .int .u64 a0_1, .int .u64 (IntKind.u64.wrap y4), .int .u64 x3, .int .i64 y4, .int .i64 y5]) rfl (by rfl) (by rfl) (by (repeat (first | exact .head | apply Ext.tail))) (by kernel_rfl) (by rfl) (by first | decide | (simp; done)) (by rfl) ?_; intro wc hO_; clear HO; have HO := Aside0.mk hO_; clear hO_; (try clear hz1 hz2 hz3 hz4 hz5); have hz1 : World.cell? _ ⟨g1, 1, none⟩ = some (.int .u64 (a0_1)) := (HO.out.cell (by (repeat (first | exact .head | apply Ext.tail))) 1).trans rfl; have hz2 : World.cell? _ ⟨g1, 2, none⟩ = some (.int .u64 (IntKind.u64.wrap y4)) := (HO.out.cell (by (repeat (first | exact .head | apply Ext.tail))) 2).trans rfl; have hz3 : World.cell? _ ⟨g1, 3, none⟩ = some (.int .u64 (x3)) := (HO.out.cell (by (repeat (first | exact .head | apply Ext.tail))) 3).trans rfl; have hz4 : World.cell? _ ⟨g1, 4, none⟩ = some (.int .i64 (y4)) := (HO.out.cell (by (repeat (first | exact .head | apply Ext.tail))) 4).trans rfl; have hz5 : World.cell? _ ⟨g1, 5, none⟩ = some (.int .i64 (y5)) := (HO.out.cell (by (repeat (first | exact .head | apply Ext.tail))) 5).trans rfl))
             go_meet
             case rel => exact ⟨_, _, HG3, ⟨HO.out.picks (.cons (by (repeat (first | exact .head | apply Ext.tail))) (.cons (by (repeat (first | exact .head | apply Ext.tail))) (.nil)))⟩⟩
           ·skip
            have cb1 : decide (x2 < IntKind.u64.wrap y4) = false := decide_eq_false c1
            have cd1 : (x2 < IntKind.u64.wrap y4) = False := eq_false c1
            have ca1 : rr_up (IntKind.u64.wrap y4) x2 = x2 := if_neg c1
            by_cases c2 : x3 > IntKind.u64.wrap y5
            ·skip
             have cb2 : decide (x3 > IntKind.u64.wrap y5) = true := decide_eq_true c2
             have cd2 : (x3 > IntKind.u64.wrap y5) = True := eq_true c2
             have ca2 : rr_dn (IntKind.u64.wrap y5) x3 = IntKind.u64.wrap y5 := if_pos c2
             have h_ := HG
             rw [ca1, ca2] at h_
             have HG3 := Aside0.mk h_
             clear h_ HG ca1 ca2 c1 c2
             go_wp2_with (first | ((with_reducible refine gate_store (p := 133) rfl ?_); refine own_store HO.out rfl (ty := 22) (x := .tmp 133) (y := .tmp 132) (v := .int .u64 (IntKind.u64.wrap y5)) (cs' := #[.int .u64 a0_0, .int .u64 a0_1, .int .u64 x2, .int .u64 (IntKind.u64.wrap y5), .int .i64 y4, .int .i64 y5]) rfl (by rfl) (by rfl) (by (repeat (first | exact .head | apply Ext.tail))) (by kernel_rfl) (by rfl) (by first | decide | (simp; done)) (by rfl) ?_; intro wc hO_; clear HO; have HO := Aside0.mk hO_; clear hO_; (try clear hz1 hz2 hz3 hz4 hz5); have hz1 : World.cell? _ ⟨g1, 1, none⟩ = some (.int .u64 (a0_1)) := (HO.out.cell (by (repeat (first | exact .head | apply Ext.tail))) 1).trans rfl; have hz2 : World.cell? _ ⟨g1, 2, none⟩ = some (.int .u64 (x2)) := (HO.out.cell (by (repeat (first | exact .head | apply Ext.tail))) 2).trans rfl; have hz3 : World.cell? _ ⟨g1, 3, none⟩ = some (.int .u64 (IntKind.u64.wrap y5)) := (HO.out.cell (by (repeat (first | exact .head | apply Ext.tail))) 3).trans rfl; have hz4 : World.cell? _ ⟨g1, 4, none⟩ = some (.int .i64 (y4)) := (HO.out.cell (by (repeat (first | exact .head | apply Ext.tail))) 4).trans rfl; have hz5 : World.cell? _ ⟨g1, 5, none⟩ = some (.int .i64 (y5)) := (HO.out.cell (by (repeat (first | exact .head | apply Ext.tail))) 5).trans rfl))
             go_meet
             case rel => exact ⟨_, _, HG3, ⟨HO.out.picks (.cons (by (repeat (first | exact .head | apply Ext.tail))) (.cons (by (repeat (first | exact .head | apply Ext.tail))) (.nil)))⟩⟩
            ·skip
             have cb2 : decide (x3 > IntKind.u64.wrap y5) = false := decide_eq_false c2
             have cd2 : (x3 > IntKind.u64.wrap y5) = False := eq_false c2
             have ca2 : rr_dn (IntKind.u64.wrap y5) x3 = x3 := if_neg c2
             have h_ := HG
             rw [ca1, ca2] at h_
             have HG3 := Aside0.mk h_
             clear h_ HG ca1 ca2 c1 c2
             go_wp2
             go_meet
             case rel => exact ⟨_, _, HG3, ⟨HO.out.picks (.cons (by (repeat (first | exact .head | apply Ext.tail))) (.cons (by (repeat (first | exact .head | apply Ext.tail))) (.nil)))⟩⟩
          | false =>
           rw [if_neg Bool.false_ne_true] at HG
           have HG3 := Aside0.mk HG
           clear HG
           go_wp2
           go_meet
           case rel => exact ⟨_, _, HG3, ⟨HO.out.picks (.cons (by (repeat (first | exact .head | apply Ext.tail))) (.cons (by (repeat (first | exact .head | apply Ext.tail))) (.nil)))⟩⟩
         case rest =>
          clear HO hz1 hz2 hz3 hz4 hz5 HG2
          obtain ⟨z2, z3, HG, HO⟩ := hcut
          have h := HG.out
          clear HG
          unfold rr_end at h
          have hz1 : World.cell? _ ⟨g1, 1, none⟩ = some (.int .u64 a0_1) := (HO.out.cell (by (repeat (first | exact .head | apply Ext.tail))) 1).trans rfl
          have hz2 : World.cell? _ ⟨g1, 2, none⟩ = some (.int .u64 z2) := (HO.out.cell (by (repeat (first | exact .head | apply Ext.tail))) 2).trans rfl
          have hz3 : World.cell? _ ⟨g1, 3, none⟩ = some (.int .u64 z3) := (HO.out.cell (by (repeat (first | exact .head | apply Ext.tail))) 3).trans rfl
          have hz4 : World.cell? _ ⟨g1, 4, none⟩ = some (.int .i64 y4) := (HO.out.cell (by (repeat (first | exact .head | apply Ext.tail))) 4).trans rfl
          have hz5 : World.cell? _ ⟨g1, 5, none⟩ = some (.int .i64 y5) := (HO.out.cell (by (repeat (first | exact .head | apply Ext.tail))) 5).trans rfl
          by_cases c1 : z2 > z3
          ·rw [if_pos (Or.inl c1)] at h
           have cb1 : decide (z2 > z3) = true := decide_eq_true c1
           have cd1 : (z2 > z3) = True := eq_true c1
           clear c1
           obtain ⟨⟨l0, l1, l2, l3, l4, l5⟩, h0, h1⟩ := Option.bind_eq_some_iff.mp h
           have HL := Aside0.mk h0
           clear h h0
           obtain ⟨rfl, rfl, rfl, rfl, rfl, rfl, rfl⟩ : l0 = r1 ∧ l1 = r2 ∧ l2 = r3 ∧ l3 = r4 ∧ l4 = r5 ∧ l5 = r6 ∧ false = r7 := by simpa using h1
           clear h1
           go_wp2_with (first | ((with_reducible refine gate_callee (f := 13) rfl ?_); (with_reducible refine gate_dst (N := 146) rfl ?_); refine goesL_ (some 146) rfl rfl Try.func13 (by kernel_rfl) rfl #[] rfl (by (try simp only [List.map_toArray, List.map_cons, List.map_nil]); first | done | rfl) ?_; (with_reducible refine (halberdref07_All.calls l0 l1 l2 l3 l4 l5 _ HL.out).mono ?_); rintro e wx ⟨rfl, hb⟩; refine ⟨_, rfl, ?_⟩; have hO_ := HO.out.below hb; clear hb; clear HO; have HO := Aside0.mk hO_; clear hO_) | ((with_reducible refine gate_store (p := 2) rfl ?_); refine own_wstore HO.out rfl (ty := 26) (x := .tmp 2) (y := .tmp 146) (cs := #[.int .u64 l0, .int .u64 l1, .int .u64 l2, .int .u64 l3, .int .i64 l4, .int .i64 l5]) rfl (by rfl) (by rfl) (by (repeat (first | exact .head | apply Ext.tail))) (by kernel_rfl) (by rfl) (by kernel_rfl) ?_; intro wc hO_; clear HO; have HO := Aside0.mk hO_; clear hO_))
           refine bodyPost_ret (results_ct rfl _ _ g2 26 #[.int .u64 l0, .int .u64 l1, .int .u64 l2, .int .u64 l3, .int .i64 l4, .int .i64 l5] (0, 0) _ rfl (HO.out.get (by (repeat (first | exact .head | apply Ext.tail)))) Try.underlying26 rfl (by kernel_rfl)) rfl ?_
           exact ⟨rfl, HO.out.bel⟩
          have cb1 : decide (z2 > z3) = false := decide_eq_false c1
          have cd1 : (z2 > z3) = False := eq_false c1
          by_cases c2 : y4 > y5
          ·rw [if_pos (Or.inr c2)] at h
           have cb2 : decide (y4 > y5) = true := decide_eq_true c2
           have cd2 : (y4 > y5) = True := eq_true c2
           clear c1 c2
           obtain ⟨⟨l0, l1, l2, l3, l4, l5⟩, h0, h1⟩ := Option.bind_eq_some_iff.mp h
           have HL := Aside0.mk h0
           clear h h0
           obtain ⟨rfl, rfl, rfl, rfl, rfl, rfl, rfl⟩ : l0 = r1 ∧ l1 = r2 ∧ l2 = r3 ∧ l3 = r4 ∧ l4 = r5 ∧ l5 = r6 ∧ false = r7 := by simpa using h1
           clear h1
           go_wp2_with (first | ((with_reducible refine gate_callee (f := 13) rfl ?_); (with_reducible refine gate_dst (N := 146) rfl ?_); refine goesL_ (some 146) rfl rfl Try.func13 (by kernel_rfl) rfl #[] rfl (by (try simp only [List.map_toArray, List.map_cons, List.map_nil]); first | done | rfl) ?_; (with_reducible refine (halberdref07_All.calls l0 l1 l2 l3 l4 l5 _ HL.out).mono ?_); rintro e wx ⟨rfl, hb⟩; refine ⟨_, rfl, ?_⟩; have hO_ := HO.out.below hb; clear hb; clear HO; have HO := Aside0.mk hO_; clear hO_) | ((with_reducible refine gate_store (p := 2) rfl ?_); refine own_wstore HO.out rfl (ty := 26) (x := .tmp 2) (y := .tmp 146) (cs := #[.int .u64 l0, .int .u64 l1, .int .u64 l2, .int .u64 l3, .int .i64 l4, .int .i64 l5]) rfl (by rfl) (by rfl) (by (repeat (first | exact .head | apply Ext.tail))) (by kernel_rfl) (by rfl) (by kernel_rfl) ?_; intro wc hO_; clear HO; have HO := Aside0.mk hO_; clear hO_))
           refine bodyPost_ret (results_ct rfl _ _ g2 26 #[.int .u64 l0, .int .u64 l1, .int .u64 l2, .int .u64 l3, .int .i64 l4, .int .i64 l5] (0, 0) _ rfl (HO.out.get (by (repeat (first | exact .head | apply Ext.tail)))) Try.underlying26 rfl (by kernel_rfl)) rfl ?_
           exact ⟨rfl, HO.out.bel⟩
          rw [if_neg (fun e => e.elim c1 c2)] at h
          have cb2 : decide (y4 > y5) = false := decide_eq_false c2
          have cd2 : (y4 > y5) = False := eq_false c2
          clear c1 c2
          obtain ⟨⟨t0, t1⟩, h0, h_⟩ := Option.bind_eq_some_iff.mp h
          clear h
          obtain ⟨⟨m0, m1, mb⟩, h2, h⟩ := Option.bind_eq_some_iff.mp h_
          clear h_
          have HT := Aside0.mk h0
          have HM : Aside0 (halberdref06_Meet.f k a0_0 a0_1 t0 t1 = some (m0, m1, mb)) := ⟨h2⟩
          clear h0 h2
          dsimp only at h
          go_upto_region 28 with (fail)
          refine start_ (n := 14) (S := fun W => Own w W [(g1, .cells #[.int .u64 a0_0, .int .u64 a0_1, .int .u64 z2, .int .u64 z3, .int .i64 y4, .int .i64 y5] 26 (0, 0))]) (ds := []) #[false, false, false, false, false, false, false, false, false, false, false, false, false, false] (by kernel_rfl) rfl rfl (Own.drew (HO.out.picks (.cons (by (repeat (first | exact .head | apply Ext.tail))) (.nil)))) (fun hHeld => ?_)
          have HO_ := Aside0.mk HO.out.drew
          clear HO
          have HO := HO_
          clear HO_
          generalize World.drew _ = wr at HO hHeld ⊢
          refine Hp.pu_ 0 148 (Hp.up 14 1) ?_
          refine take_ (i := 1) (N := some 149) (v := .agg #[.int .u64 a0_0, .int .u64 a0_1]) (a' := ?_) (Hp.up 14 2) rfl rfl (by kernel_rfl) (fun _ _ _ h => h) (own_yieldN (by rfl) (x := .tmp 148) rfl (by rfl) (.head) (vs := [.int .u64 a0_0, .int .u64 a0_1]) (by rfl) Try.underlying24 (by rfl) (by kernel_rfl) rfl) hHeld ?_ ?_
          rotate_left
          ·simp only [Act.put, List.setIfInBounds_toArray, List.set_cons_zero, List.set_cons_succ, i64_w, i32_w]
           rfl
          refine Hp.pu_ 2 150 (Hp.up 14 3) ?_
          refine take_ (i := 3) (N := some 151) (v := .int .u64 z2) (a' := ?_) (Hp.up 14 4) rfl rfl (by kernel_rfl) (fun _ _ _ h => h) (own_yield1 (by rfl) (x := .tmp 150) rfl (by rfl) (.head) Try.underlying22 (by rfl) (by rfl)) hHeld ?_ ?_
          rotate_left
          ·simp only [Act.put, List.setIfInBounds_toArray, List.set_cons_zero, List.set_cons_succ, i64_w, i32_w]
           rfl
          refine Hp.pu_ 4 152 (Hp.up 14 5) ?_
          refine take_ (i := 5) (N := some 153) (v := .int .u64 z3) (a' := ?_) (Hp.up 14 6) rfl rfl (by kernel_rfl) (fun _ _ _ h => h) (own_yield1 (by rfl) (x := .tmp 152) rfl (by rfl) (.head) Try.underlying22 (by rfl) (by rfl)) hHeld ?_ ?_
          rotate_left
          ·simp only [Act.put, List.setIfInBounds_toArray, List.set_cons_zero, List.set_cons_succ, i64_w, i32_w]
           rfl
          refine join_ (σ := Nat) 2 (Hp.up 14 12) (fun s_ => [(154, .agg #[.int .u64 t0, .int .u64 t1]), (155, .tuple #[.agg #[.int .u64 m0, .int .u64 m1], .bool mb]), (147, .tuple #[.agg #[.int .u64 m0, .int .u64 m1], .bool mb]), (156, .agg #[.int .u64 m0, .int .u64 m1]), (157, .bool mb), (9, .pointer (some ⟨s_, 0, none⟩))]) (fun s_ w' => Own w w' ((s_, .cells #[.int .u64 0, .int .u64 0] 24 (0, 0)) :: (g1, .cells #[.int .u64 a0_0, .int .u64 a0_1, .int .u64 z2, .int .u64 z3, .int .i64 y4, .int .i64 y5] 26 (0, 0)) :: (g2, .cells #[.int .u64 0, .int .u64 0, .int .u64 0, .int .u64 0, .int .i64 0, .int .i64 0] 26 (0, 0)) :: [])) ?_ ?_
          rotate_left
          ·intro hCont
           refine two_ (i := 6) (j := 11) (Ni := some 154) (Nj := some 9) (Hp.up 14 7) #[true, true, true, true, true, true, false, false, false, false, false, true, false, false] rfl rfl rfl rfl (by kernel_rfl) (by decide) (by decide) (fun K hK => ?_) (fun K hK => ?_)
           ·skip
            refine goes_ Try.func59 (by kernel_rfl) rfl #[.int .u64 z2, .int .u64 z3] (by rfl) rfl rfl (by (try simp only [List.map_toArray, List.map_cons, List.map_nil]); first | done | rfl) ?_
            refine (halberdref06_Range.calls k z2 z3 t0 t1 _ HT.out).mono ?_
            rintro e wx ⟨rfl, hb⟩
            refine ⟨_, rfl, ?_⟩
            have hO_ := HO.out.below hb
            clear hb
            clear HO; have HO := Aside0.mk hO_; clear hO_
            refine hK.out _ _ (HO.out.picks (.cons (by (repeat (first | exact .head | apply Ext.tail))) (.nil))) (fun hHeld => ?_)
            clear hK K
            refine norm_ (a' := ?_) ?_ ?_
            rotate_left
            ·show Act.put _ (some 154) _ = _
             simp only [Act.put, List.setIfInBounds_toArray, List.set_cons_zero, List.set_cons_succ, i64_w, i32_w]
             rfl
            refine two_ (i := 7) (j := 11) (Ni := some 155) (Nj := some 9) (Hp.up 14 8) #[true, true, true, true, true, true, true, false, false, false, false, true, false, false] rfl rfl rfl rfl (by kernel_rfl) (by decide) (by decide) (fun K hK => ?_) (fun K hK => ?_)
            ·skip
             refine goes_ Try.func58 (by kernel_rfl) rfl #[.agg #[.int .u64 a0_0, .int .u64 a0_1], .agg #[.int .u64 t0, .int .u64 t1]] (by rfl) rfl rfl (by (try simp only [List.map_toArray, List.map_cons, List.map_nil]); first | done | rfl) ?_
             refine (halberdref06_Meet.calls k a0_0 a0_1 t0 t1 m0 m1 mb _ HM.out).mono ?_
             rintro e wx ⟨rfl, hb⟩
             refine ⟨_, rfl, ?_⟩
             have hO_ := HO.out.below hb
             clear hb
             clear HO; have HO := Aside0.mk hO_; clear hO_
             refine hK.out _ _ (HO.out.picks (.cons (by (repeat (first | exact .head | apply Ext.tail))) (.nil))) (fun hHeld => ?_)
             clear hK K
             refine norm_ (a' := ?_) ?_ ?_
             rotate_left
             ·show Act.put _ (some 155) _ = _
              simp only [Act.put, List.setIfInBounds_toArray, List.set_cons_zero, List.set_cons_succ, i64_w, i32_w]
              rfl
             refine Hp.pu_ 8 147 (Hp.up 14 9) ?_
             refine Hp.pu_ 9 156 (Hp.up 14 10) ?_
             refine Hp.pu_ 10 157 (Hp.up 14 11) ?_
             refine one_ (i := 11) (N := some 9) (Hp.up 14 12) rfl rfl (by kernel_rfl) (by decide) (fun K hK => ?_)
             refine own_box_k HO.out (by rfl) (N := 9) rfl (cs := #[.int .u64 0, .int .u64 0]) (t := 24) (by first | (go_simp; done) | (go_simp; rfl) | kernel_rfl) ?_
             intro g9 w9 hO_
             clear HO; have HO := Aside0.mk hO_; clear hO_
             refine hK.out _ _ (HO.out.picks (.cons (by (repeat (first | exact .head | apply Ext.tail))) (.nil))) (fun hHeld => ?_)
             clear hK K
             refine norm_ (a' := ?_) ?_ ?_
             rotate_left
             ·show Act.put _ (some 9) _ = _
              simp only [Act.put, List.setIfInBounds_toArray, List.set_cons_zero, List.set_cons_succ, i64_w, i32_w]
              rfl
             exact norm_ (by simp only [putAll, Act.put, List.setIfInBounds_toArray, List.set_cons_zero, List.set_cons_succ]) (hCont (g9) _ (HO.out.picks (.cons (by (repeat (first | exact .head | apply Ext.tail))) (.cons (by (repeat (first | exact .head | apply Ext.tail))) (.cons (by (repeat (first | exact .head | apply Ext.tail))) (.nil))))))
            ·skip
             refine own_box_k HO.out (by rfl) (N := 9) rfl (cs := #[.int .u64 0, .int .u64 0]) (t := 24) (by first | (go_simp; done) | (go_simp; rfl) | kernel_rfl) ?_
             intro g9 w9 hO_
             clear HO; have HO := Aside0.mk hO_; clear hO_
             refine hK.out _ _ (HO.out.picks (.cons (by (repeat (first | exact .head | apply Ext.tail))) (.nil))) (fun hHeld => ?_)
             clear hK K
             refine norm_ (a' := ?_) ?_ ?_
             rotate_left
             ·show Act.put _ (some 9) _ = _
              simp only [Act.put, List.setIfInBounds_toArray, List.set_cons_zero, List.set_cons_succ, i64_w, i32_w]
              rfl
             refine one_ (i := 7) (N := some 155) #[true, true, true, true, true, true, true, true, false, false, false, true, false, false] rfl rfl (by kernel_rfl) (by decide) (fun K hK => ?_)
             refine goes_ Try.func58 (by kernel_rfl) rfl #[.agg #[.int .u64 a0_0, .int .u64 a0_1], .agg #[.int .u64 t0, .int .u64 t1]] (by rfl) rfl rfl (by (try simp only [List.map_toArray, List.map_cons, List.map_nil]); first | done | rfl) ?_
             refine (halberdref06_Meet.calls k a0_0 a0_1 t0 t1 m0 m1 mb _ HM.out).mono ?_
             rintro e wx ⟨rfl, hb⟩
             refine ⟨_, rfl, ?_⟩
             have hO_ := HO.out.below hb
             clear hb
             clear HO; have HO := Aside0.mk hO_; clear hO_
             refine hK.out _ _ (HO.out.picks (.cons (by (repeat (first | exact .head | apply Ext.tail))) (.nil))) (fun hHeld => ?_)
             clear hK K
             refine norm_ (a' := ?_) ?_ ?_
             rotate_left
             ·show Act.put _ (some 155) _ = _
              simp only [Act.put, List.setIfInBounds_toArray, List.set_cons_zero, List.set_cons_succ, i64_w, i32_w]
              rfl
             refine Hp.pu_ 8 147 #[true, true, true, true, true, true, true, true, true, false, false, true, false, false] ?_
             refine Hp.pu_ 9 156 #[true, true, true, true, true, true, true, true, true, true, false, true, false, false] ?_
             refine Hp.pu_ 10 157 (Hp.up 14 12) ?_
             exact norm_ (by simp only [putAll, Act.put, List.setIfInBounds_toArray, List.set_cons_zero, List.set_cons_succ]) (hCont (g9) _ (HO.out.picks (.cons (by (repeat (first | exact .head | apply Ext.tail))) (.cons (by (repeat (first | exact .head | apply Ext.tail))) (.cons (by (repeat (first | exact .head | apply Ext.tail))) (.nil))))))
           ·skip
            refine own_box_k HO.out (by rfl) (N := 9) rfl (cs := #[.int .u64 0, .int .u64 0]) (t := 24) (by first | (go_simp; done) | (go_simp; rfl) | kernel_rfl) ?_
            intro g9 w9 hO_
            clear HO; have HO := Aside0.mk hO_; clear hO_
            refine hK.out _ _ (HO.out.picks (.cons (by (repeat (first | exact .head | apply Ext.tail))) (.nil))) (fun hHeld => ?_)
            clear hK K
            refine norm_ (a' := ?_) ?_ ?_
            rotate_left
            ·show Act.put _ (some 9) _ = _
             simp only [Act.put, List.setIfInBounds_toArray, List.set_cons_zero, List.set_cons_succ, i64_w, i32_w]
             rfl
            refine one_ (i := 6) (N := some 154) #[true, true, true, true, true, true, true, false, false, false, false, true, false, false] rfl rfl (by kernel_rfl) (by decide) (fun K hK => ?_)
            refine goes_ Try.func59 (by kernel_rfl) rfl #[.int .u64 z2, .int .u64 z3] (by rfl) rfl rfl (by (try simp only [List.map_toArray, List.map_cons, List.map_nil]); first | done | rfl) ?_
            refine (halberdref06_Range.calls k z2 z3 t0 t1 _ HT.out).mono ?_
            rintro e wx ⟨rfl, hb⟩
            refine ⟨_, rfl, ?_⟩
            have hO_ := HO.out.below hb
            clear hb
            clear HO; have HO := Aside0.mk hO_; clear hO_
            refine hK.out _ _ (HO.out.picks (.cons (by (repeat (first | exact .head | apply Ext.tail))) (.nil))) (fun hHeld => ?_)
            clear hK K
            refine norm_ (a' := ?_) ?_ ?_
            rotate_left
            ·show Act.put _ (some 154) _ = _
             simp only [Act.put, List.setIfInBounds_toArray, List.set_cons_zero, List.set_cons_succ, i64_w, i32_w]
             rfl
            refine one_ (i := 7) (N := some 155) #[true, true, true, true, true, true, true, true, false, false, false, true, false, false] rfl rfl (by kernel_rfl) (by decide) (fun K hK => ?_)
            refine goes_ Try.func58 (by kernel_rfl) rfl #[.agg #[.int .u64 a0_0, .int .u64 a0_1], .agg #[.int .u64 t0, .int .u64 t1]] (by rfl) rfl rfl (by (try simp only [List.map_toArray, List.map_cons, List.map_nil]); first | done | rfl) ?_
            refine (halberdref06_Meet.calls k a0_0 a0_1 t0 t1 m0 m1 mb _ HM.out).mono ?_
            rintro e wx ⟨rfl, hb⟩
            refine ⟨_, rfl, ?_⟩
            have hO_ := HO.out.below hb
            clear hb
            clear HO; have HO := Aside0.mk hO_; clear hO_
            refine hK.out _ _ (HO.out.picks (.cons (by (repeat (first | exact .head | apply Ext.tail))) (.nil))) (fun hHeld => ?_)
            clear hK K
            refine norm_ (a' := ?_) ?_ ?_
            rotate_left
            ·show Act.put _ (some 155) _ = _
             simp only [Act.put, List.setIfInBounds_toArray, List.set_cons_zero, List.set_cons_succ, i64_w, i32_w]
             rfl
            refine Hp.pu_ 8 147 #[true, true, true, true, true, true, true, true, true, false, false, true, false, false] ?_
            refine Hp.pu_ 9 156 #[true, true, true, true, true, true, true, true, true, true, false, true, false, false] ?_
            refine Hp.pu_ 10 157 (Hp.up 14 12) ?_
            exact norm_ (by simp only [putAll, Act.put, List.setIfInBounds_toArray, List.set_cons_zero, List.set_cons_succ]) (hCont (g9) _ (HO.out.picks (.cons (by (repeat (first | exact .head | apply Ext.tail))) (.cons (by (repeat (first | exact .head | apply Ext.tail))) (.cons (by (repeat (first | exact .head | apply Ext.tail))) (.nil))))))
          rintro g9 wj hO_
          clear HO
          have HO := Aside0.mk hO_
          have hHeld := HO.out.picks (.cons (by (repeat (first | exact .head | apply Ext.tail))) (.nil))
          clear hO_
          refine norm_ (a' := ?_) ?_ ?_
          rotate_left
          ·simp only [putAll, Act.put, List.setIfInBounds_toArray, List.set_cons_zero, List.set_cons_succ]
           rfl
          refine one_ (i := 12) (N := none) (Hp.up 14 13) rfl rfl (by kernel_rfl) (by decide) (fun K hK => ?_)
          refine own_storeN_k HO.out (by rfl) rfl (ty := 24) (x := .tmp 9) (y := .tmp 156) (vs := #[.int .u64 m0, .int .u64 m1]) (cs' := #[.int .u64 m0, .int .u64 m1]) rfl (by rfl) (by rfl) (by (repeat (first | exact .head | apply Ext.tail))) (by kernel_rfl) (by kernel_rfl) (by first | decide | (simp; done)) (by rfl) ?_
          intro wc hO_
          clear HO; have HO := Aside0.mk hO_; clear hO_
          refine hK.out _ _ (HO.out.picks (.cons (by (repeat (first | exact .head | apply Ext.tail))) (.nil))) (fun hHeld => ?_)
          clear hK K
          refine Hp.pu_ 13 10 (Hp.up 14 14) ?_
          refine done_ (by kernel_rfl) ?_
          clear hHeld
          cases mb with
          | false =>
           rw [if_neg Bool.false_ne_true] at h
           obtain ⟨⟨l0, l1, l2, l3, l4, l5⟩, h0, h1⟩ := Option.bind_eq_some_iff.mp h
           have HL := Aside0.mk h0
           clear h h0
           obtain ⟨rfl, rfl, rfl, rfl, rfl, rfl, rfl⟩ : l0 = r1 ∧ l1 = r2 ∧ l2 = r3 ∧ l3 = r4 ∧ l4 = r5 ∧ l5 = r6 ∧ false = r7 := by simpa using h1
           clear h1
           go_wp2_with (first | ((with_reducible refine gate_callee (f := 13) rfl ?_); (with_reducible refine gate_dst (N := 160) rfl ?_); refine goesL_ (some 160) rfl rfl Try.func13 (by kernel_rfl) rfl #[] rfl (by (try simp only [List.map_toArray, List.map_cons, List.map_nil]); first | done | rfl) ?_; (with_reducible refine (halberdref07_All.calls l0 l1 l2 l3 l4 l5 _ HL.out).mono ?_); rintro e wx ⟨rfl, hb⟩; refine ⟨_, rfl, ?_⟩; have hO_ := HO.out.below hb; clear hb; clear HO; have HO := Aside0.mk hO_; clear hO_) | ((with_reducible refine gate_store (p := 2) rfl ?_); refine own_wstore HO.out rfl (ty := 26) (x := .tmp 2) (y := .tmp 160) (cs := #[.int .u64 l0, .int .u64 l1, .int .u64 l2, .int .u64 l3, .int .i64 l4, .int .i64 l5]) rfl (by rfl) (by rfl) (by (repeat (first | exact .head | apply Ext.tail))) (by kernel_rfl) (by rfl) (by kernel_rfl) ?_; intro wc hO_; clear HO; have HO := Aside0.mk hO_; clear hO_))
           refine bodyPost_ret (results_ct rfl _ _ g2 26 #[.int .u64 l0, .int .u64 l1, .int .u64 l2, .int .u64 l3, .int .i64 l4, .int .i64 l5] (0, 0) _ rfl (HO.out.get (by (repeat (first | exact .head | apply Ext.tail)))) Try.underlying26 rfl (by kernel_rfl)) rfl ?_
           exact ⟨rfl, HO.out.bel⟩
          | true =>
           rw [if_pos rfl] at h
           obtain ⟨rfl, rfl, rfl, rfl, rfl, rfl, rfl⟩ : m0 = r1 ∧ m1 = r2 ∧ z2 = r3 ∧ z3 = r4 ∧ y4 = r5 ∧ y5 = r6 ∧ true = r7 := by simpa using h
           clear h
           go_wp2_with (first | ((with_reducible refine gate_dst (N := 161) rfl ?_); refine own_loadN HO.out rfl (x := .tmp 9) rfl (by rfl) (by (repeat (first | exact .head | apply Ext.tail))) (vs := [.int .u64 m0, .int .u64 m1]) (by rfl) Try.underlying24 (by rfl) (by kernel_rfl) (va := #[.int .u64 m0, .int .u64 m1]) rfl ?_) | ((with_reducible refine gate_store (p := 162) rfl ?_); refine own_storeN HO.out rfl (ty := 24) (x := .tmp 162) (y := .tmp 161) (vs := #[.int .u64 m0, .int .u64 m1]) (cs' := #[.int .u64 m0, .int .u64 m1, .int .u64 z2, .int .u64 z3, .int .i64 y4, .int .i64 y5]) rfl (by rfl) (by rfl) (by (repeat (first | exact .head | apply Ext.tail))) (by kernel_rfl) (by kernel_rfl) (by first | decide | (simp; done)) (by rfl) ?_; intro wc hO_; clear HO; have HO := Aside0.mk hO_; clear hO_) | ((with_reducible refine gate_dst (N := 163) rfl ?_); refine own_wload HO.out rfl (x := .tmp 1) rfl (by rfl) (by (repeat (first | exact .head | apply Ext.tail))) Try.underlying26 (by rfl) (by kernel_rfl) ?_) | ((with_reducible refine gate_store (p := 2) rfl ?_); refine own_wstore HO.out rfl (ty := 26) (x := .tmp 2) (y := .tmp 163) (cs := #[.int .u64 m0, .int .u64 m1, .int .u64 z2, .int .u64 z3, .int .i64 y4, .int .i64 y5]) rfl (by rfl) (by rfl) (by (repeat (first | exact .head | apply Ext.tail))) (by kernel_rfl) (by rfl) (by kernel_rfl) ?_; intro wc hO_; clear HO; have HO := Aside0.mk hO_; clear hO_))
           refine bodyPost_ret (results_ct rfl _ _ g2 26 #[.int .u64 m0, .int .u64 m1, .int .u64 z2, .int .u64 z3, .int .i64 y4, .int .i64 y5] (0, 0) _ rfl (HO.out.get (by (repeat (first | exact .head | apply Ext.tail)))) Try.underlying26 rfl (by kernel_rfl)) rfl ?_
           exact ⟨rfl, HO.out.bel⟩


/-! ### halberdref07_Refine: function 12 -/
def halberdref07_Refine.f (k : Nat) (a0_0 : Int) (a0_1 : Int) (a0_2 : Int) (a0_3 : Int) (a0_4 : Int) (a0_5 : Int) : Option (Int × Int × Int × Int × Int × Int × Bool) := (halberdref07_Round.f k a0_0 a0_1 a0_2 a0_3 a0_4 a0_5).bind fun bt242 => (if bt242.2.2.2.2.2.2 = true then ((halberdref07_Round.f k bt242.1 bt242.2.1 bt242.2.2.1 bt242.2.2.2.1 bt242.2.2.2.2.1 bt242.2.2.2.2.2.1).bind fun bt250 => (some (bt250.1, bt250.2.1, bt250.2.2.1, bt250.2.2.2.1, bt250.2.2.2.2.1, bt250.2.2.2.2.2.1, bt250.2.2.2.2.2.2))) else (some (bt242.1, bt242.2.1, bt242.2.2.1, bt242.2.2.2.1, bt242.2.2.2.2.1, bt242.2.2.2.2.2.1, false)))
theorem halberdref07_Refine.mono : ∀ a0 a1 a2 a3 a4 a5 k, LeO (halberdref07_Refine.f k a0 a1 a2 a3 a4 a5) (halberdref07_Refine.f (k + 1) a0 a1 a2 a3 a4 a5) := by
 intro a0 a1 a2 a3 a4 a5 k
 unfold halberdref07_Refine.f
 repeat' first
   | (with_reducible exact halberdref07_Round.mono _ _ _ _ _ _ _)
   | (with_reducible exact LeO.refl _)
   | (with_reducible exact LeO.none _)
   | (with_reducible refine LeO.ite ?_ ?_)
   | (with_reducible refine LeO.bind ?_ (fun _ => ?_))
   | exact halberdref07_Round.mono _ _ _ _ _ _ _
   | exact LeO.none _
   | refine LeO.ite ?_ ?_
   | refine LeO.bind ?_ (fun _ => ?_)
set_option maxHeartbeats 8000000 in
set_option maxRecDepth 100000 in
theorem halberdref07_Refine.calls (k : Nat) (a0_0 : Int) (a0_1 : Int) (a0_2 : Int) (a0_3 : Int) (a0_4 : Int) (a0_5 : Int) (r1 : Int) (r2 : Int) (r3 : Int) (r4 : Int) (r5 : Int) (r6 : Int) (r7 : Bool) (w : World) (h : halberdref07_Refine.f k a0_0 a0_1 a0_2 a0_3 a0_4 a0_5 = some (r1, r2, r3, r4, r5, r6, r7)) :
  Calls Try.prog 12 #[.agg #[.int .u64 a0_0, .int .u64 a0_1, .int .u64 a0_2, .int .u64 a0_3, .int .i64 a0_4, .int .i64 a0_5]] w fun e w' => e = .returned (.tuple #[.agg #[.int .u64 r1, .int .u64 r2, .int .u64 r3, .int .u64 r4, .int .i64 r5, .int .i64 r6], .bool r7]) ∧ Below w.heap.size w w' := by
 have hu26 := Try.underlying26
 have HB := Aside0.mk (Below.refl w.heap.size w)
 have H : ((halberdref07_Round.f k a0_0 a0_1 a0_2 a0_3 a0_4 a0_5).bind fun bt242 => (if bt242.2.2.2.2.2.2 = true then ((halberdref07_Round.f k bt242.1 bt242.2.1 bt242.2.2.1 bt242.2.2.2.1 bt242.2.2.2.2.1 bt242.2.2.2.2.2.1).bind fun bt250 => (some (bt250.1, bt250.2.1, bt250.2.2.1, bt250.2.2.2.1, bt250.2.2.2.2.1, bt250.2.2.2.2.2.1, bt250.2.2.2.2.2.2))) else (some (bt242.1, bt242.2.1, bt242.2.2.1, bt242.2.2.2.1, bt242.2.2.2.2.1, bt242.2.2.2.2.2.1, false)))) = some (r1, r2, r3, r4, r5, r6, r7) := h
 clear h
 replace H := Option.bind_eq_some_iff.mp H
 obtain ⟨⟨t242, t243, t244, t245, t246, t247, t248⟩, A20, H⟩ := H
 replace H : (if t248 = true then ((halberdref07_Round.f k t242 t243 t244 t245 t246 t247).bind fun bt250 => (some (bt250.1, bt250.2.1, bt250.2.2.1, bt250.2.2.2.1, bt250.2.2.2.2.1, bt250.2.2.2.2.2.1, bt250.2.2.2.2.2.2))) else (some (t242, t243, t244, t245, t246, t247, false))) = some (r1, r2, r3, r4, r5, r6, r7) := H
 have A2 := Aside0.mk A20
 clear A20
 by_cases c3 : t248 = true
 ·subst c3
  have H1 : ((halberdref07_Round.f k t242 t243 t244 t245 t246 t247).bind fun bt250 => (some (bt250.1, bt250.2.1, bt250.2.2.1, bt250.2.2.2.1, bt250.2.2.2.2.1, bt250.2.2.2.2.2.1, bt250.2.2.2.2.2.2))) = some (r1, r2, r3, r4, r5, r6, r7) := by rw [if_pos rfl] at H; exact H
  clear H
  have H := H1
  clear H1
  replace H := Option.bind_eq_some_iff.mp H
  obtain ⟨⟨t250, t251, t252, t253, t254, t255, t256⟩, A40, H⟩ := H
  replace H : (some (t250, t251, t252, t253, t254, t255, t256)) = some (r1, r2, r3, r4, r5, r6, r7) := H
  have A4 := Aside0.mk A40
  clear A40
  simp only [Option.some.injEq, Prod.mk.injEq] at H
  obtain ⟨rfl, rfl, rfl, rfl, rfl, rfl, rfl⟩ := H
  go_enter Try.func12, Try.ntmps12
  go_wp2_with (first | ((with_reducible refine gate_dst (N := 1) rfl ?_); refine box_event ?hg (N := 1) ?hd (cs := #[.int .u64 a0_0, .int .u64 a0_1, .int .u64 a0_2, .int .u64 a0_3, .int .i64 a0_4, .int .i64 a0_5]) (t := 26) ?hr ?_; (case hd => rfl); (case hg => rfl); (case hr => first | (go_simp; done) | (go_simp; rfl)); intro gb240 hg w5 hbox hb; have n0_ := Aside0.mk (below_step (by repeat (first | (with_reducible first | exact HB.out | apply below_alloc | apply pw_below_drewN | apply below_drew1) | exact HB.out)) hb); have n1_ := Aside0.mk (hbox); have n2_ := Aside0.mk ((by rw [hg]; exact (below_size (by repeat (first | (with_reducible first | exact HB.out | apply below_alloc | apply pw_below_drewN | apply below_drew1) | exact HB.out))) : w.heap.size ≤ gb240)); have n3_ := Aside0.mk ((by rw [hg]; exact (below_size (by repeat (first | (with_reducible first | exact HB.out | apply below_alloc | apply pw_below_drewN | apply below_drew1) | exact HB.out))) : w.heap.size ≤ gb240)); clear HB; have HB := n0_; have BK240 := n1_; have GW240 := n2_; have GE240 := n3_; clear n0_ n1_ n2_ n3_; clear hb hbox hg) | ((with_reducible refine gate_dst (N := 2) rfl ?_); refine box_event ?hg (N := 2) ?hd (cs := #[.int .u64 0, .int .u64 0, .int .u64 0, .int .u64 0, .int .i64 0, .int .i64 0]) (t := 26) ?hr ?_; (case hd => rfl); (case hg => rfl); (case hr => first | (go_simp; done) | (go_simp; rfl)); intro gb241 hg w6 hbox hb; have n0_ := Aside0.mk (blk_below (g := gb240) (o := .cells #[.int .u64 a0_0, .int .u64 a0_1, .int .u64 a0_2, .int .u64 a0_3, .int .i64 a0_4, .int .i64 a0_5] 26 (0, 0)) (by (with_reducible repeat (first | refine blk_drewN ?_ _ | refine blk_drew ?_ | refine blk_alloc ?_ _)); exact BK240.out) hb); have n1_ := Aside0.mk (below_step (by repeat (first | (with_reducible first | exact HB.out | apply below_alloc | apply pw_below_drewN | apply below_drew1 | refine below_set ?_ GE240.out) | exact HB.out)) hb); have n2_ := Aside0.mk (hbox); have n3_ := Aside0.mk ((by rw [hg]; exact (below_size (by repeat (first | (with_reducible first | exact HB.out | apply below_alloc | apply pw_below_drewN | apply below_drew1 | refine below_set ?_ GE240.out) | exact HB.out))) : w.heap.size ≤ gb241)); have n4_ := Aside0.mk ((by rw [hg]; exact (below_size (by repeat (first | (with_reducible first | exact HB.out | apply below_alloc | apply pw_below_drewN | apply below_drew1 | refine below_set ?_ GE240.out) | exact HB.out))) : w.heap.size ≤ gb241)); have n5_ := Aside0.mk ((by rw [hg]; exact Nat.ne_of_lt (blk_lt (g := gb240) (o := .cells #[.int .u64 a0_0, .int .u64 a0_1, .int .u64 a0_2, .int .u64 a0_3, .int .i64 a0_4, .int .i64 a0_5] 26 (0, 0)) (by (with_reducible repeat (first | refine blk_drewN ?_ _ | refine blk_drew ?_ | refine blk_alloc ?_ _)); exact BK240.out)) : gb240 ≠ gb241)); have n6_ := Aside0.mk ((by rw [hg]; exact Nat.ne_of_gt (blk_lt (g := gb240) (o := .cells #[.int .u64 a0_0, .int .u64 a0_1, .int .u64 a0_2, .int .u64 a0_3, .int .i64 a0_4, .int .i64 a0_5] 26 (0, 0)) (by (with_reducible repeat (first | refine blk_drewN ?_ _ | refine blk_drew ?_ | refine blk_alloc ?_ _)); exact BK240.out)) : gb241 ≠ gb240)); clear BK240; clear HB; have BK240 := n0_; have HB := n1_; have BK241 := n2_; have GW241 := n3_; have GE241 := n4_; have NB240_241 := n5_; have NB241_240 := n6_; clear n0_ n1_ n2_ n3_ n4_ n5_ n6_; clear hb hbox hg; have hnb7 := NB240_241.out; have hnc7 := NB241_240.out; have hcz8_0 : w6.cell? ⟨gb240, 0, none⟩ = some (.int .u64 a0_0) := (blk_cell BK240.out 0).trans rfl; have hcz8_1 : w6.cell? ⟨gb240, 1, none⟩ = some (.int .u64 a0_1) := (blk_cell BK240.out 1).trans rfl; have hcz8_2 : w6.cell? ⟨gb240, 2, none⟩ = some (.int .u64 a0_2) := (blk_cell BK240.out 2).trans rfl; have hcz8_3 : w6.cell? ⟨gb240, 3, none⟩ = some (.int .u64 a0_3) := (blk_cell BK240.out 3).trans rfl; have hcz8_4 : w6.cell? ⟨gb240, 4, none⟩ = some (.int .i64 a0_4) := (blk_cell BK240.out 4).trans rfl; have hcz8_5 : w6.cell? ⟨gb240, 5, none⟩ = some (.int .i64 a0_5) := (blk_cell BK240.out 5).trans rfl; have hfz8_0 := blk_frozen BK240.out 0; have hfz8_1 := blk_frozen BK240.out 1; have hfz8_2 := blk_frozen BK240.out 2; have hfz8_3 := blk_frozen BK240.out 3; have hfz8_4 := blk_frozen BK240.out 4; have hfz8_5 := blk_frozen BK240.out 5) | ((with_reducible refine gate_callee (f := 26) rfl ?_); refine goesL_ (some 8) rfl rfl Try.func26 (by kernel_rfl) rfl #[.agg #[.int .u64 a0_0, .int .u64 a0_1, .int .u64 a0_2, .int .u64 a0_3, .int .i64 a0_4, .int .i64 a0_5]] rfl (by (try simp only [List.map_toArray, List.map_cons, List.map_nil]); first | done | rfl | (simp only [List.length_drop, List.length_take]; rfl)) ?_; (with_reducible refine (halberdref07_Round.calls k a0_0 a0_1 a0_2 a0_3 a0_4 a0_5 t242 t243 t244 t245 t246 t247 true _ A2.out).mono ?_); rintro e w9 ⟨rfl, hb⟩; refine ⟨_, rfl, ?_⟩; have n0_ := Aside0.mk (blk_below (g := gb240) (o := .cells #[.int .u64 a0_0, .int .u64 a0_1, .int .u64 a0_2, .int .u64 a0_3, .int .i64 a0_4, .int .i64 a0_5] 26 (0, 0)) (by (with_reducible repeat (first | refine blk_drewN ?_ _ | refine blk_drew ?_ | refine blk_alloc ?_ _)); exact BK240.out) hb); have n1_ := Aside0.mk (blk_below (g := gb241) (o := .cells #[.int .u64 0, .int .u64 0, .int .u64 0, .int .u64 0, .int .i64 0, .int .i64 0] 26 (0, 0)) (by (with_reducible repeat (first | refine blk_drewN ?_ _ | refine blk_drew ?_ | refine blk_alloc ?_ _)); exact BK241.out) hb); have n2_ := Aside0.mk (below_step (by repeat (first | (with_reducible first | exact HB.out | apply below_alloc | apply pw_below_drewN | apply below_drew1 | refine below_set ?_ GE240.out | refine below_set ?_ GE241.out) | exact HB.out)) hb); clear BK240; clear BK241; clear HB; have BK240 := n0_; have BK241 := n1_; have HB := n2_; clear n0_ n1_ n2_; (try clear hb); (try clear hb2); (try clear hk); (try clear hi)) | ((with_reducible refine gate_dst (N := 4) rfl ?_); refine box_event ?hg (N := 4) ?hd (cs := #[.int .u64 0, .int .u64 0, .int .u64 0, .int .u64 0, .int .i64 0, .int .i64 0]) (t := 26) ?hr ?_; (case hd => rfl); (case hg => rfl); (case hr => first | (go_simp; done) | (go_simp; rfl)); intro gb249 hg w10 hbox hb; have n0_ := Aside0.mk (blk_below (g := gb240) (o := .cells #[.int .u64 a0_0, .int .u64 a0_1, .int .u64 a0_2, .int .u64 a0_3, .int .i64 a0_4, .int .i64 a0_5] 26 (0, 0)) (by (with_reducible repeat (first | refine blk_drewN ?_ _ | refine blk_drew ?_ | refine blk_alloc ?_ _)); exact BK240.out) hb); have n1_ := Aside0.mk (blk_below (g := gb241) (o := .cells #[.int .u64 0, .int .u64 0, .int .u64 0, .int .u64 0, .int .i64 0, .int .i64 0] 26 (0, 0)) (by (with_reducible repeat (first | refine blk_drewN ?_ _ | refine blk_drew ?_ | refine blk_alloc ?_ _)); exact BK241.out) hb); have n2_ := Aside0.mk (below_step (by repeat (first | (with_reducible first | exact HB.out | apply below_alloc | apply pw_below_drewN | apply below_drew1 | refine below_set ?_ GE240.out | refine below_set ?_ GE241.out) | exact HB.out)) hb); have n3_ := Aside0.mk (hbox); have n4_ := Aside0.mk ((by rw [hg]; exact (below_size (by repeat (first | (with_reducible first | exact HB.out | apply below_alloc | apply pw_below_drewN | apply below_drew1 | refine below_set ?_ GE240.out | refine below_set ?_ GE241.out) | exact HB.out))) : w.heap.size ≤ gb249)); have n5_ := Aside0.mk ((by rw [hg]; exact (below_size (by repeat (first | (with_reducible first | exact HB.out | apply below_alloc | apply pw_below_drewN | apply below_drew1 | refine below_set ?_ GE240.out | refine below_set ?_ GE241.out) | exact HB.out))) : w.heap.size ≤ gb249)); have n6_ := Aside0.mk ((by rw [hg]; exact Nat.ne_of_lt (blk_lt (g := gb240) (o := .cells #[.int .u64 a0_0, .int .u64 a0_1, .int .u64 a0_2, .int .u64 a0_3, .int .i64 a0_4, .int .i64 a0_5] 26 (0, 0)) (by (with_reducible repeat (first | refine blk_drewN ?_ _ | refine blk_drew ?_ | refine blk_alloc ?_ _)); exact BK240.out)) : gb240 ≠ gb249)); have n7_ := Aside0.mk ((by rw [hg]; exact Nat.ne_of_gt (blk_lt (g := gb240) (o := .cells #[.int .u64 a0_0, .int .u64 a0_1, .int .u64 a0_2, .int .u64 a0_3, .int .i64 a0_4, .int .i64 a0_5] 26 (0, 0)) (by (with_reducible repeat (first | refine blk_drewN ?_ _ | refine blk_drew ?_ | refine blk_alloc ?_ _)); exact BK240.out)) : gb249 ≠ gb240)); have n8_ := Aside0.mk ((by rw [hg]; exact Nat.ne_of_lt (blk_lt (g := gb241) (o := .cells #[.int .u64 0, .int .u64 0, .int .u64 0, .int .u64 0, .int .i64 0, .int .i64 0] 26 (0, 0)) (by (with_reducible repeat (first | refine blk_drewN ?_ _ | refine blk_drew ?_ | refine blk_alloc ?_ _)); exact BK241.out)) : gb241 ≠ gb249)); have n9_ := Aside0.mk ((by rw [hg]; exact Nat.ne_of_gt (blk_lt (g := gb241) (o := .cells #[.int .u64 0, .int .u64 0, .int .u64 0, .int .u64 0, .int .i64 0, .int .i64 0] 26 (0, 0)) (by (with_reducible repeat (first | refine blk_drewN ?_ _ | refine blk_drew ?_ | refine blk_alloc ?_ _)); exact BK241.out)) : gb249 ≠ gb241)); clear BK240; clear BK241; clear HB; have BK240 := n0_; have BK241 := n1_; have HB := n2_; have BK249 := n3_; have GW249 := n4_; have GE249 := n5_; have NB240_249 := n6_; have NB249_240 := n7_; have NB241_249 := n8_; have NB249_241 := n9_; clear n0_ n1_ n2_ n3_ n4_ n5_ n6_ n7_ n8_ n9_; clear hb hbox hg; have hnb11 := NB249_240.out; have hnc11 := NB240_249.out; have hnb12 := NB249_241.out; have hnc12 := NB241_249.out; have hcz13_0 : w10.cell? ⟨gb249, 0, none⟩ = some (.int .u64 0) := (blk_cell BK249.out 0).trans rfl; have hcz13_1 : w10.cell? ⟨gb249, 1, none⟩ = some (.int .u64 0) := (blk_cell BK249.out 1).trans rfl; have hcz13_2 : w10.cell? ⟨gb249, 2, none⟩ = some (.int .u64 0) := (blk_cell BK249.out 2).trans rfl; have hcz13_3 : w10.cell? ⟨gb249, 3, none⟩ = some (.int .u64 0) := (blk_cell BK249.out 3).trans rfl; have hcz13_4 : w10.cell? ⟨gb249, 4, none⟩ = some (.int .i64 0) := (blk_cell BK249.out 4).trans rfl; have hcz13_5 : w10.cell? ⟨gb249, 5, none⟩ = some (.int .i64 0) := (blk_cell BK249.out 5).trans rfl; have hfz13_0 := blk_frozen BK249.out 0; have hfz13_1 := blk_frozen BK249.out 1; have hfz13_2 := blk_frozen BK249.out 2; have hfz13_3 := blk_frozen BK249.out 3; have hfz13_4 := blk_frozen BK249.out 4; have hfz13_5 := blk_frozen BK249.out 5) | ((with_reducible refine gate_callee (f := 26) rfl ?_); refine goesL_ (some 15) rfl rfl Try.func26 (by kernel_rfl) rfl #[.agg #[.int .u64 t242, .int .u64 t243, .int .u64 t244, .int .u64 t245, .int .i64 t246, .int .i64 t247]] rfl (by (try simp only [List.map_toArray, List.map_cons, List.map_nil]); first | done | rfl | (simp only [List.length_drop, List.length_take]; rfl)) ?_; (with_reducible refine (halberdref07_Round.calls k t242 t243 t244 t245 t246 t247 t250 t251 t252 t253 t254 t255 t256 _ A4.out).mono ?_); rintro e w14 ⟨rfl, hb⟩; refine ⟨_, rfl, ?_⟩; have n0_ := Aside0.mk (blk_below (g := gb240) (o := .cells #[.int .u64 a0_0, .int .u64 a0_1, .int .u64 a0_2, .int .u64 a0_3, .int .i64 a0_4, .int .i64 a0_5] 26 (0, 0)) (by (with_reducible repeat (first | refine blk_drewN ?_ _ | refine blk_drew ?_ | refine blk_alloc ?_ _)); refine blk_far ?_ NB240_249.out _; (with_reducible repeat (first | refine blk_drewN ?_ _ | refine blk_drew ?_ | refine blk_alloc ?_ _)); refine blk_far ?_ NB240_249.out _; (with_reducible repeat (first | refine blk_drewN ?_ _ | refine blk_drew ?_ | refine blk_alloc ?_ _)); refine blk_far ?_ NB240_249.out _; (with_reducible repeat (first | refine blk_drewN ?_ _ | refine blk_drew ?_ | refine blk_alloc ?_ _)); refine blk_far ?_ NB240_249.out _; (with_reducible repeat (first | refine blk_drewN ?_ _ | refine blk_drew ?_ | refine blk_alloc ?_ _)); refine blk_far ?_ NB240_249.out _; (with_reducible repeat (first | refine blk_drewN ?_ _ | refine blk_drew ?_ | refine blk_alloc ?_ _)); refine blk_far ?_ NB240_249.out _; (with_reducible repeat (first | refine blk_drewN ?_ _ | refine blk_drew ?_ | refine blk_alloc ?_ _)); exact BK240.out) hb); have n1_ := Aside0.mk (blk_below (g := gb241) (o := .cells #[.int .u64 0, .int .u64 0, .int .u64 0, .int .u64 0, .int .i64 0, .int .i64 0] 26 (0, 0)) (by (with_reducible repeat (first | refine blk_drewN ?_ _ | refine blk_drew ?_ | refine blk_alloc ?_ _)); refine blk_far ?_ NB241_249.out _; (with_reducible repeat (first | refine blk_drewN ?_ _ | refine blk_drew ?_ | refine blk_alloc ?_ _)); refine blk_far ?_ NB241_249.out _; (with_reducible repeat (first | refine blk_drewN ?_ _ | refine blk_drew ?_ | refine blk_alloc ?_ _)); refine blk_far ?_ NB241_249.out _; (with_reducible repeat (first | refine blk_drewN ?_ _ | refine blk_drew ?_ | refine blk_alloc ?_ _)); refine blk_far ?_ NB241_249.out _; (with_reducible repeat (first | refine blk_drewN ?_ _ | refine blk_drew ?_ | refine blk_alloc ?_ _)); refine blk_far ?_ NB241_249.out _; (with_reducible repeat (first | refine blk_drewN ?_ _ | refine blk_drew ?_ | refine blk_alloc ?_ _)); refine blk_far ?_ NB241_249.out _; (with_reducible repeat (first | refine blk_drewN ?_ _ | refine blk_drew ?_ | refine blk_alloc ?_ _)); exact BK241.out) hb); have n2_ := Aside0.mk (blk_below (g := gb249) (o := .cells #[.int .u64 t242, .int .u64 t243, .int .u64 t244, .int .u64 t245, .int .i64 t246, .int .i64 t247] 26 (0, 0)) (by (with_reducible repeat (first | refine blk_drewN ?_ _ | refine blk_drew ?_ | refine blk_alloc ?_ _)); refine blk_put (cs := #[.int .u64 t242, .int .u64 t243, .int .u64 t244, .int .u64 t245, .int .i64 t246, .int .i64 0]) ?_ 5 _ rfl; (with_reducible repeat (first | refine blk_drewN ?_ _ | refine blk_drew ?_ | refine blk_alloc ?_ _)); refine blk_put (cs := #[.int .u64 t242, .int .u64 t243, .int .u64 t244, .int .u64 t245, .int .i64 0, .int .i64 0]) ?_ 4 _ rfl; (with_reducible repeat (first | refine blk_drewN ?_ _ | refine blk_drew ?_ | refine blk_alloc ?_ _)); refine blk_put (cs := #[.int .u64 t242, .int .u64 t243, .int .u64 t244, .int .u64 0, .int .i64 0, .int .i64 0]) ?_ 3 _ rfl; (with_reducible repeat (first | refine blk_drewN ?_ _ | refine blk_drew ?_ | refine blk_alloc ?_ _)); refine blk_put (cs := #[.int .u64 t242, .int .u64 t243, .int .u64 0, .int .u64 0, .int .i64 0, .int .i64 0]) ?_ 2 _ rfl; (with_reducible repeat (first | refine blk_drewN ?_ _ | refine blk_drew ?_ | refine blk_alloc ?_ _)); refine blk_put (cs := #[.int .u64 t242, .int .u64 0, .int .u64 0, .int .u64 0, .int .i64 0, .int .i64 0]) ?_ 1 _ rfl; (with_reducible repeat (first | refine blk_drewN ?_ _ | refine blk_drew ?_ | refine blk_alloc ?_ _)); refine blk_put (cs := #[.int .u64 0, .int .u64 0, .int .u64 0, .int .u64 0, .int .i64 0, .int .i64 0]) ?_ 0 _ rfl; (with_reducible repeat (first | refine blk_drewN ?_ _ | refine blk_drew ?_ | refine blk_alloc ?_ _)); exact BK249.out) hb); have n3_ := Aside0.mk (below_step (by repeat (first | (with_reducible first | exact HB.out | apply below_alloc | apply pw_below_drewN | apply below_drew1 | refine below_set ?_ GE240.out | refine below_set ?_ GE241.out | refine below_set ?_ GE249.out) | exact HB.out)) hb); clear BK240; clear BK241; clear BK249; clear HB; have BK240 := n0_; have BK241 := n1_; have BK249 := n2_; have HB := n3_; clear n0_ n1_ n2_ n3_; (try clear hb); (try clear hb2); (try clear hk); (try clear hi); have hcz15_0 : w14.cell? ⟨gb241, 0, none⟩ = some (.int .u64 0) := (blk_cell BK241.out 0).trans rfl; have hcz15_1 : w14.cell? ⟨gb241, 1, none⟩ = some (.int .u64 0) := (blk_cell BK241.out 1).trans rfl; have hcz15_2 : w14.cell? ⟨gb241, 2, none⟩ = some (.int .u64 0) := (blk_cell BK241.out 2).trans rfl; have hcz15_3 : w14.cell? ⟨gb241, 3, none⟩ = some (.int .u64 0) := (blk_cell BK241.out 3).trans rfl; have hcz15_4 : w14.cell? ⟨gb241, 4, none⟩ = some (.int .i64 0) := (blk_cell BK241.out 4).trans rfl; have hcz15_5 : w14.cell? ⟨gb241, 5, none⟩ = some (.int .i64 0) := (blk_cell BK241.out 5).trans rfl; have hfz15_0 := blk_frozen BK241.out 0; have hfz15_1 := blk_frozen BK241.out 1; have hfz15_2 := blk_frozen BK241.out 2; have hfz15_3 := blk_frozen BK241.out 3; have hfz15_4 := blk_frozen BK241.out 4; have hfz15_5 := blk_frozen BK241.out 5))
  refine bodyPost_ret (results_ct rfl _ _ gb241 26 #[.int .u64 t250, .int .u64 t251, .int .u64 t252, .int .u64 t253, .int .i64 t254, .int .i64 t255] (0, 0) _ rfl (by (with_reducible repeat (first | refine blk_drewN ?_ _ | refine blk_drew ?_ | refine blk_alloc ?_ _)); refine blk_put (cs := #[.int .u64 t250, .int .u64 t251, .int .u64 t252, .int .u64 t253, .int .i64 t254, .int .i64 0]) ?_ 5 _ rfl; (with_reducible repeat (first | refine blk_drewN ?_ _ | refine blk_drew ?_ | refine blk_alloc ?_ _)); refine blk_put (cs := #[.int .u64 t250, .int .u64 t251, .int .u64 t252, .int .u64 t253, .int .i64 0, .int .i64 0]) ?_ 4 _ rfl; (with_reducible repeat (first | refine blk_drewN ?_ _ | refine blk_drew ?_ | refine blk_alloc ?_ _)); refine blk_put (cs := #[.int .u64 t250, .int .u64 t251, .int .u64 t252, .int .u64 0, .int .i64 0, .int .i64 0]) ?_ 3 _ rfl; (with_reducible repeat (first | refine blk_drewN ?_ _ | refine blk_drew ?_ | refine blk_alloc ?_ _)); refine blk_put (cs := #[.int .u64 t250, .int .u64 t251, .int .u64 0, .int .u64 0, .int .i64 0, .int .i64 0]) ?_ 2 _ rfl; (with_reducible repeat (first | refine blk_drewN ?_ _ | refine blk_drew ?_ | refine blk_alloc ?_ _)); refine blk_put (cs := #[.int .u64 t250, .int .u64 0, .int .u64 0, .int .u64 0, .int .i64 0, .int .i64 0]) ?_ 1 _ rfl; (with_reducible repeat (first | refine blk_drewN ?_ _ | refine blk_drew ?_ | refine blk_alloc ?_ _)); refine blk_put (cs := #[.int .u64 0, .int .u64 0, .int .u64 0, .int .u64 0, .int .i64 0, .int .i64 0]) ?_ 0 _ rfl; (with_reducible repeat (first | refine blk_drewN ?_ _ | refine blk_drew ?_ | refine blk_alloc ?_ _)); exact BK241.out) Try.underlying26 rfl (by kernel_rfl)) rfl ?_
  exact ⟨by first | rfl | (simp [errW_none, errW_some] <;> rfl) | (simp [*, errW_none, errW_some] <;> rfl), by repeat (first | (with_reducible first | exact HB.out | apply below_alloc | apply pw_below_drewN | apply below_drew1 | refine below_set ?_ GE240.out | refine below_set ?_ GE241.out | refine below_set ?_ GE249.out) | exact HB.out)⟩
 ·replace c3 := Bool.eq_false_iff.mpr c3
  subst c3
  have H1 : (some (t242, t243, t244, t245, t246, t247, false)) = some (r1, r2, r3, r4, r5, r6, r7) := by rw [if_neg (show ¬ (false = true) by decide)] at H; exact H
  clear H
  have H := H1
  clear H1
  simp only [Option.some.injEq, Prod.mk.injEq] at H
  obtain ⟨rfl, rfl, rfl, rfl, rfl, rfl, rfl⟩ := H
  go_enter Try.func12, Try.ntmps12
  go_wp2_with (first | ((with_reducible refine gate_dst (N := 1) rfl ?_); refine box_event ?hg (N := 1) ?hd (cs := #[.int .u64 a0_0, .int .u64 a0_1, .int .u64 a0_2, .int .u64 a0_3, .int .i64 a0_4, .int .i64 a0_5]) (t := 26) ?hr ?_; (case hd => rfl); (case hg => rfl); (case hr => first | (go_simp; done) | (go_simp; rfl)); intro gb240 hg w16 hbox hb; have n0_ := Aside0.mk (below_step (by repeat (first | (with_reducible first | exact HB.out | apply below_alloc | apply pw_below_drewN | apply below_drew1) | exact HB.out)) hb); have n1_ := Aside0.mk (hbox); have n2_ := Aside0.mk ((by rw [hg]; exact (below_size (by repeat (first | (with_reducible first | exact HB.out | apply below_alloc | apply pw_below_drewN | apply below_drew1) | exact HB.out))) : w.heap.size ≤ gb240)); have n3_ := Aside0.mk ((by rw [hg]; exact (below_size (by repeat (first | (with_reducible first | exact HB.out | apply below_alloc | apply pw_below_drewN | apply below_drew1) | exact HB.out))) : w.heap.size ≤ gb240)); clear HB; have HB := n0_; have BK240 := n1_; have GW240 := n2_; have GE240 := n3_; clear n0_ n1_ n2_ n3_; clear hb hbox hg) | ((with_reducible refine gate_dst (N := 2) rfl ?_); refine box_event ?hg (N := 2) ?hd (cs := #[.int .u64 0, .int .u64 0, .int .u64 0, .int .u64 0, .int .i64 0, .int .i64 0]) (t := 26) ?hr ?_; (case hd => rfl); (case hg => rfl); (case hr => first | (go_simp; done) | (go_simp; rfl)); intro gb241 hg w17 hbox hb; have n0_ := Aside0.mk (blk_below (g := gb240) (o := .cells #[.int .u64 a0_0, .int .u64 a0_1, .int .u64 a0_2, .int .u64 a0_3, .int .i64 a0_4, .int .i64 a0_5] 26 (0, 0)) (by (with_reducible repeat (first | refine blk_drewN ?_ _ | refine blk_drew ?_ | refine blk_alloc ?_ _)); exact BK240.out) hb); have n1_ := Aside0.mk (below_step (by repeat (first | (with_reducible first | exact HB.out | apply below_alloc | apply pw_below_drewN | apply below_drew1 | refine below_set ?_ GE240.out) | exact HB.out)) hb); have n2_ := Aside0.mk (hbox); have n3_ := Aside0.mk ((by rw [hg]; exact (below_size (by repeat (first | (with_reducible first | exact HB.out | apply below_alloc | apply pw_below_drewN | apply below_drew1 | refine below_set ?_ GE240.out) | exact HB.out))) : w.heap.size ≤ gb241)); have n4_ := Aside0.mk ((by rw [hg]; exact (below_size (by repeat (first | (with_reducible first | exact HB.out | apply below_alloc | apply pw_below_drewN | apply below_drew1 | refine below_set ?_ GE240.out) | exact HB.out))) : w.heap.size ≤ gb241)); have n5_ := Aside0.mk ((by rw [hg]; exact Nat.ne_of_lt (blk_lt (g := gb240) (o := .cells #[.int .u64 a0_0, .int .u64 a0_1, .int .u64 a0_2, .int .u64 a0_3, .int .i64 a0_4, .int .i64 a0_5] 26 (0, 0)) (by (with_reducible repeat (first | refine blk_drewN ?_ _ | refine blk_drew ?_ | refine blk_alloc ?_ _)); exact BK240.out)) : gb240 ≠ gb241)); have n6_ := Aside0.mk ((by rw [hg]; exact Nat.ne_of_gt (blk_lt (g := gb240) (o := .cells #[.int .u64 a0_0, .int .u64 a0_1, .int .u64 a0_2, .int .u64 a0_3, .int .i64 a0_4, .int .i64 a0_5] 26 (0, 0)) (by (with_reducible repeat (first | refine blk_drewN ?_ _ | refine blk_drew ?_ | refine blk_alloc ?_ _)); exact BK240.out)) : gb241 ≠ gb240)); clear BK240; clear HB; have BK240 := n0_; have HB := n1_; have BK241 := n2_; have GW241 := n3_; have GE241 := n4_; have NB240_241 := n5_; have NB241_240 := n6_; clear n0_ n1_ n2_ n3_ n4_ n5_ n6_; clear hb hbox hg; have hnb18 := NB240_241.out; have hnc18 := NB241_240.out; have hcz19_0 : w17.cell? ⟨gb240, 0, none⟩ = some (.int .u64 a0_0) := (blk_cell BK240.out 0).trans rfl; have hcz19_1 : w17.cell? ⟨gb240, 1, none⟩ = some (.int .u64 a0_1) := (blk_cell BK240.out 1).trans rfl; have hcz19_2 : w17.cell? ⟨gb240, 2, none⟩ = some (.int .u64 a0_2) := (blk_cell BK240.out 2).trans rfl; have hcz19_3 : w17.cell? ⟨gb240, 3, none⟩ = some (.int .u64 a0_3) := (blk_cell BK240.out 3).trans rfl; have hcz19_4 : w17.cell? ⟨gb240, 4, none⟩ = some (.int .i64 a0_4) := (blk_cell BK240.out 4).trans rfl; have hcz19_5 : w17.cell? ⟨gb240, 5, none⟩ = some (.int .i64 a0_5) := (blk_cell BK240.out 5).trans rfl; have hfz19_0 := blk_frozen BK240.out 0; have hfz19_1 := blk_frozen BK240.out 1; have hfz19_2 := blk_frozen BK240.out 2; have hfz19_3 := blk_frozen BK240.out 3; have hfz19_4 := blk_frozen BK240.out 4; have hfz19_5 := blk_frozen BK240.out 5) | ((with_reducible refine gate_callee (f := 26) rfl ?_); refine goesL_ (some 8) rfl rfl Try.func26 (by kernel_rfl) rfl #[.agg #[.int .u64 a0_0, .int .u64 a0_1, .int .u64 a0_2, .int .u64 a0_3, .int .i64 a0_4, .int .i64 a0_5]] rfl (by (try simp only [List.map_toArray, List.map_cons, List.map_nil]); first | done | rfl | (simp only [List.length_drop, List.length_take]; rfl)) ?_; (with_reducible refine (halberdref07_Round.calls k a0_0 a0_1 a0_2 a0_3 a0_4 a0_5 t242 t243 t244 t245 t246 t247 false _ A2.out).mono ?_); rintro e w20 ⟨rfl, hb⟩; refine ⟨_, rfl, ?_⟩; have n0_ := Aside0.mk (blk_below (g := gb240) (o := .cells #[.int .u64 a0_0, .int .u64 a0_1, .int .u64 a0_2, .int .u64 a0_3, .int .i64 a0_4, .int .i64 a0_5] 26 (0, 0)) (by (with_reducible repeat (first | refine blk_drewN ?_ _ | refine blk_drew ?_ | refine blk_alloc ?_ _)); exact BK240.out) hb); have n1_ := Aside0.mk (blk_below (g := gb241) (o := .cells #[.int .u64 0, .int .u64 0, .int .u64 0, .int .u64 0, .int .i64 0, .int .i64 0] 26 (0, 0)) (by (with_reducible repeat (first | refine blk_drewN ?_ _ | refine blk_drew ?_ | refine blk_alloc ?_ _)); exact BK241.out) hb); have n2_ := Aside0.mk (below_step (by repeat (first | (with_reducible first | exact HB.out | apply below_alloc | apply pw_below_drewN | apply below_drew1 | refine below_set ?_ GE240.out | refine below_set ?_ GE241.out) | exact HB.out)) hb); clear BK240; clear BK241; clear HB; have BK240 := n0_; have BK241 := n1_; have HB := n2_; clear n0_ n1_ n2_; (try clear hb); (try clear hb2); (try clear hk); (try clear hi)) | ((with_reducible refine gate_dst (N := 4) rfl ?_); refine box_event ?hg (N := 4) ?hd (cs := #[.int .u64 0, .int .u64 0, .int .u64 0, .int .u64 0, .int .i64 0, .int .i64 0]) (t := 26) ?hr ?_; (case hd => rfl); (case hg => rfl); (case hr => first | (go_simp; done) | (go_simp; rfl)); intro gb249 hg w21 hbox hb; have n0_ := Aside0.mk (blk_below (g := gb240) (o := .cells #[.int .u64 a0_0, .int .u64 a0_1, .int .u64 a0_2, .int .u64 a0_3, .int .i64 a0_4, .int .i64 a0_5] 26 (0, 0)) (by (with_reducible repeat (first | refine blk_drewN ?_ _ | refine blk_drew ?_ | refine blk_alloc ?_ _)); exact BK240.out) hb); have n1_ := Aside0.mk (blk_below (g := gb241) (o := .cells #[.int .u64 0, .int .u64 0, .int .u64 0, .int .u64 0, .int .i64 0, .int .i64 0] 26 (0, 0)) (by (with_reducible repeat (first | refine blk_drewN ?_ _ | refine blk_drew ?_ | refine blk_alloc ?_ _)); exact BK241.out) hb); have n2_ := Aside0.mk (below_step (by repeat (first | (with_reducible first | exact HB.out | apply below_alloc | apply pw_below_drewN | apply below_drew1 | refine below_set ?_ GE240.out | refine below_set ?_ GE241.out) | exact HB.out)) hb); have n3_ := Aside0.mk (hbox); have n4_ := Aside0.mk ((by rw [hg]; exact (below_size (by repeat (first | (with_reducible first | exact HB.out | apply below_alloc | apply pw_below_drewN | apply below_drew1 | refine below_set ?_ GE240.out | refine below_set ?_ GE241.out) | exact HB.out))) : w.heap.size ≤ gb249)); have n5_ := Aside0.mk ((by rw [hg]; exact (below_size (by repeat (first | (with_reducible first | exact HB.out | apply below_alloc | apply pw_below_drewN | apply below_drew1 | refine below_set ?_ GE240.out | refine below_set ?_ GE241.out) | exact HB.out))) : w.heap.size ≤ gb249)); have n6_ := Aside0.mk ((by rw [hg]; exact Nat.ne_of_lt (blk_lt (g := gb240) (o := .cells #[.int .u64 a0_0, .int .u64 a0_1, .int .u64 a0_2, .int .u64 a0_3, .int .i64 a0_4, .int .i64 a0_5] 26 (0, 0)) (by (with_reducible repeat (first | refine blk_drewN ?_ _ | refine blk_drew ?_ | refine blk_alloc ?_ _)); exact BK240.out)) : gb240 ≠ gb249)); have n7_ := Aside0.mk ((by rw [hg]; exact Nat.ne_of_gt (blk_lt (g := gb240) (o := .cells #[.int .u64 a0_0, .int .u64 a0_1, .int .u64 a0_2, .int .u64 a0_3, .int .i64 a0_4, .int .i64 a0_5] 26 (0, 0)) (by (with_reducible repeat (first | refine blk_drewN ?_ _ | refine blk_drew ?_ | refine blk_alloc ?_ _)); exact BK240.out)) : gb249 ≠ gb240)); have n8_ := Aside0.mk ((by rw [hg]; exact Nat.ne_of_lt (blk_lt (g := gb241) (o := .cells #[.int .u64 0, .int .u64 0, .int .u64 0, .int .u64 0, .int .i64 0, .int .i64 0] 26 (0, 0)) (by (with_reducible repeat (first | refine blk_drewN ?_ _ | refine blk_drew ?_ | refine blk_alloc ?_ _)); exact BK241.out)) : gb241 ≠ gb249)); have n9_ := Aside0.mk ((by rw [hg]; exact Nat.ne_of_gt (blk_lt (g := gb241) (o := .cells #[.int .u64 0, .int .u64 0, .int .u64 0, .int .u64 0, .int .i64 0, .int .i64 0] 26 (0, 0)) (by (with_reducible repeat (first | refine blk_drewN ?_ _ | refine blk_drew ?_ | refine blk_alloc ?_ _)); exact BK241.out)) : gb249 ≠ gb241)); clear BK240; clear BK241; clear HB; have BK240 := n0_; have BK241 := n1_; have HB := n2_; have BK249 := n3_; have GW249 := n4_; have GE249 := n5_; have NB240_249 := n6_; have NB249_240 := n7_; have NB241_249 := n8_; have NB249_241 := n9_; clear n0_ n1_ n2_ n3_ n4_ n5_ n6_ n7_ n8_ n9_; clear hb hbox hg; have hnb22 := NB249_240.out; have hnc22 := NB240_249.out; have hnb23 := NB249_241.out; have hnc23 := NB241_249.out; have hcz24_0 : w21.cell? ⟨gb249, 0, none⟩ = some (.int .u64 0) := (blk_cell BK249.out 0).trans rfl; have hcz24_1 : w21.cell? ⟨gb249, 1, none⟩ = some (.int .u64 0) := (blk_cell BK249.out 1).trans rfl; have hcz24_2 : w21.cell? ⟨gb249, 2, none⟩ = some (.int .u64 0) := (blk_cell BK249.out 2).trans rfl; have hcz24_3 : w21.cell? ⟨gb249, 3, none⟩ = some (.int .u64 0) := (blk_cell BK249.out 3).trans rfl; have hcz24_4 : w21.cell? ⟨gb249, 4, none⟩ = some (.int .i64 0) := (blk_cell BK249.out 4).trans rfl; have hcz24_5 : w21.cell? ⟨gb249, 5, none⟩ = some (.int .i64 0) := (blk_cell BK249.out 5).trans rfl; have hfz24_0 := blk_frozen BK249.out 0; have hfz24_1 := blk_frozen BK249.out 1; have hfz24_2 := blk_frozen BK249.out 2; have hfz24_3 := blk_frozen BK249.out 3; have hfz24_4 := blk_frozen BK249.out 4; have hfz24_5 := blk_frozen BK249.out 5; have hcz25_0 : w21.cell? ⟨gb241, 0, none⟩ = some (.int .u64 0) := (blk_cell BK241.out 0).trans rfl; have hcz25_1 : w21.cell? ⟨gb241, 1, none⟩ = some (.int .u64 0) := (blk_cell BK241.out 1).trans rfl; have hcz25_2 : w21.cell? ⟨gb241, 2, none⟩ = some (.int .u64 0) := (blk_cell BK241.out 2).trans rfl; have hcz25_3 : w21.cell? ⟨gb241, 3, none⟩ = some (.int .u64 0) := (blk_cell BK241.out 3).trans rfl; have hcz25_4 : w21.cell? ⟨gb241, 4, none⟩ = some (.int .i64 0) := (blk_cell BK241.out 4).trans rfl; have hcz25_5 : w21.cell? ⟨gb241, 5, none⟩ = some (.int .i64 0) := (blk_cell BK241.out 5).trans rfl; have hfz25_0 := blk_frozen BK241.out 0; have hfz25_1 := blk_frozen BK241.out 1; have hfz25_2 := blk_frozen BK241.out 2; have hfz25_3 := blk_frozen BK241.out 3; have hfz25_4 := blk_frozen BK241.out 4; have hfz25_5 := blk_frozen BK241.out 5))
  refine bodyPost_ret (results_ct rfl _ _ gb241 26 #[.int .u64 t242, .int .u64 t243, .int .u64 t244, .int .u64 t245, .int .i64 t246, .int .i64 t247] (0, 0) _ rfl (by (with_reducible repeat (first | refine blk_drewN ?_ _ | refine blk_drew ?_ | refine blk_alloc ?_ _)); refine blk_put (cs := #[.int .u64 t242, .int .u64 t243, .int .u64 t244, .int .u64 t245, .int .i64 t246, .int .i64 0]) ?_ 5 _ rfl; (with_reducible repeat (first | refine blk_drewN ?_ _ | refine blk_drew ?_ | refine blk_alloc ?_ _)); refine blk_put (cs := #[.int .u64 t242, .int .u64 t243, .int .u64 t244, .int .u64 t245, .int .i64 0, .int .i64 0]) ?_ 4 _ rfl; (with_reducible repeat (first | refine blk_drewN ?_ _ | refine blk_drew ?_ | refine blk_alloc ?_ _)); refine blk_put (cs := #[.int .u64 t242, .int .u64 t243, .int .u64 t244, .int .u64 0, .int .i64 0, .int .i64 0]) ?_ 3 _ rfl; (with_reducible repeat (first | refine blk_drewN ?_ _ | refine blk_drew ?_ | refine blk_alloc ?_ _)); refine blk_put (cs := #[.int .u64 t242, .int .u64 t243, .int .u64 0, .int .u64 0, .int .i64 0, .int .i64 0]) ?_ 2 _ rfl; (with_reducible repeat (first | refine blk_drewN ?_ _ | refine blk_drew ?_ | refine blk_alloc ?_ _)); refine blk_put (cs := #[.int .u64 t242, .int .u64 0, .int .u64 0, .int .u64 0, .int .i64 0, .int .i64 0]) ?_ 1 _ rfl; (with_reducible repeat (first | refine blk_drewN ?_ _ | refine blk_drew ?_ | refine blk_alloc ?_ _)); refine blk_put (cs := #[.int .u64 0, .int .u64 0, .int .u64 0, .int .u64 0, .int .i64 0, .int .i64 0]) ?_ 0 _ rfl; (with_reducible repeat (first | refine blk_drewN ?_ _ | refine blk_drew ?_ | refine blk_alloc ?_ _)); refine blk_far ?_ NB241_249.out _; (with_reducible repeat (first | refine blk_drewN ?_ _ | refine blk_drew ?_ | refine blk_alloc ?_ _)); refine blk_far ?_ NB241_249.out _; (with_reducible repeat (first | refine blk_drewN ?_ _ | refine blk_drew ?_ | refine blk_alloc ?_ _)); refine blk_far ?_ NB241_249.out _; (with_reducible repeat (first | refine blk_drewN ?_ _ | refine blk_drew ?_ | refine blk_alloc ?_ _)); refine blk_far ?_ NB241_249.out _; (with_reducible repeat (first | refine blk_drewN ?_ _ | refine blk_drew ?_ | refine blk_alloc ?_ _)); refine blk_far ?_ NB241_249.out _; (with_reducible repeat (first | refine blk_drewN ?_ _ | refine blk_drew ?_ | refine blk_alloc ?_ _)); refine blk_far ?_ NB241_249.out _; (with_reducible repeat (first | refine blk_drewN ?_ _ | refine blk_drew ?_ | refine blk_alloc ?_ _)); exact BK241.out) Try.underlying26 rfl (by kernel_rfl)) rfl ?_
  exact ⟨by first | rfl | (simp [errW_none, errW_some] <;> rfl) | (simp [*, errW_none, errW_some] <;> rfl), by repeat (first | (with_reducible first | exact HB.out | apply below_alloc | apply pw_below_drewN | apply below_drew1 | refine below_set ?_ GE240.out | refine below_set ?_ GE241.out | refine below_set ?_ GE249.out) | exact HB.out)⟩

end Go.Proofs.Ytkgmdcibjjkhlaa.PXferSound
