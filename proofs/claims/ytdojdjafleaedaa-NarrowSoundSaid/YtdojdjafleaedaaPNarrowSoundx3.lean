/- Functions of the program that some laws reach, as Lean functions, and proofs that the program's calls come to what they say: written by a program, for the texts that import it; each theorem bears its own conditions. -/
import Derived.Test.YtdojdjafleaedaaPNarrowSoundx0
import Derived.Test.YtdojdjafleaedaaPNarrowSoundx2
namespace Go.Proofs.Ytdojdjafleaedaa.PNarrowSound
open Go.RowKit Go.Proofs.YtdojdjafleaedaaW.PrintWords Go.Proofs.YtdojdjafleaedaaW.PrintLast Go.Proofs.YtdojdjafleaedaaW.PrintMore
attribute [local go_sem] max2_int min2_int max_two min_two max_three min_three max_four min_four   -- for this text's walks alone
set_option linter.unusedVariables false
set_option linter.unusedSimpArgs false

/-! ### num_known_round: function 53 -/
def num_rB4 (A2 A3 A4 : Int) : Int := if (Go.bits .and .u64 A2 9223372036854775808 == Go.bits .and .u64 A3 9223372036854775808) = true then mx A4 (wrap64 A2) else A4
def num_rB5 (A2 A3 A5 : Int) : Int := if (Go.bits .and .u64 A2 9223372036854775808 == Go.bits .and .u64 A3 9223372036854775808) = true then mn A5 (wrap64 A3) else A5
def num_rC2 (A2 B4 B5 : Int) : Int := if (decide (B4 < 0) == decide (B5 < 0)) = true then mx A2 (IntKind.u64.wrap B4) else A2
def num_rC3 (A3 B4 B5 : Int) : Int := if (decide (B4 < 0) == decide (B5 < 0)) = true then mn A3 (IntKind.u64.wrap B5) else A3
/-- The end of a round: is it empty; what both bounds tell of the bits. -/
def num_rEnd (s0 s1 C2 C3 B4 B5 : Int) : Option (Bool × Int × Int × Int × Int × Int × Int) :=
 if C3 < C2 then some (false, s0, s1, C2, C3, B4, B5) else if B5 < B4 then some (false, s0, s1, C2, C3, B4, B5) else (tnum_Range.f C2 C3).bind fun t => (tnum_Meet.f s0 s1 t.1 t.2).bind fun u => some (u.2.2, u.1, u.2.1, C2, C3, B4, B5)
def num_rMid (s0 s1 A2 A3 A4 A5 : Int) : Option (Bool × Int × Int × Int × Int × Int × Int) :=
 num_rEnd s0 s1 (num_rC2 A2 (num_rB4 A2 A3 A4) (num_rB5 A2 A3 A5)) (num_rC3 A3 (num_rB4 A2 A3 A4) (num_rB5 A2 A3 A5)) (num_rB4 A2 A3 A4) (num_rB5 A2 A3 A5)
def num_known_round.f (s0_0 : Int) (s0_1 : Int) (s0_2 : Int) (s0_3 : Int) (s0_4 : Int) (s0_5 : Int) : Option (Bool × Int × Int × Int × Int × Int × Int) :=
 num_rMid s0_0 s0_1 (mx s0_2 (Go.bits .andNot .u64 s0_0 s0_1)) (mn s0_3 (Go.bits .or .u64 (Go.bits .andNot .u64 s0_0 s0_1) s0_1)) (mx s0_4 (wrap64 (Go.bits .or .u64 (Go.bits .andNot .u64 s0_0 s0_1) (Go.bits .and .u64 s0_1 9223372036854775808)))) (mn s0_5 (wrap64 (Go.bits .or .u64 (Go.bits .andNot .u64 s0_0 s0_1) (Go.bits .andNot .u64 s0_1 9223372036854775808))))
theorem num_cells {w0 w : World} {g : Nat} {a b c d e f : Int} (h : IsS66 w0 w g a b c d e f) :
  w.cell? ⟨g, 0, none⟩ = some (.int .u64 a) ∧ w.cell? ⟨g, 1, none⟩ = some (.int .u64 b) ∧ w.cell? ⟨g, 2, none⟩ = some (.int .u64 c) ∧ w.cell? ⟨g, 3, none⟩ = some (.int .u64 d) ∧ w.cell? ⟨g, 4, none⟩ = some (.int .i64 e) ∧ w.cell? ⟨g, 5, none⟩ = some (.int .i64 f) :=
 ⟨(blk_cell h.1 0).trans rfl, (blk_cell h.1 1).trans rfl, (blk_cell h.1 2).trans rfl, (blk_cell h.1 3).trans rfl, (blk_cell h.1 4).trans rfl, (blk_cell h.1 5).trans rfl⟩
theorem num_full {w0 wn w' : World} {g : Nat} {a b c d e f : Int} (h : IsS66 w0 wn g a b c d e f) (hb : Below wn.heap.size wn w') :
  w'.cell? ⟨g, 0, none⟩ = some (.int .u64 a) ∧ w'.cell? ⟨g, 1, none⟩ = some (.int .u64 b) ∧ w'.cell? ⟨g, 2, none⟩ = some (.int .u64 c) ∧ w'.cell? ⟨g, 3, none⟩ = some (.int .u64 d) ∧ Below wn.heap.size wn w' := by
 have hn : w'.heap[g]? = _ := blk_below h.1 hb
 exact ⟨(blk_cell hn 0).trans rfl, (blk_cell hn 1).trans rfl, (blk_cell hn 2).trans rfl, (blk_cell hn 3).trans rfl, hb⟩
theorem num_sz (w : World) (o : Obj) : w.heap.size ≤ (w.alloc o).heap.size := (below_alloc (Below.refl _ _) o).size
set_option maxHeartbeats 8000000 in
set_option maxRecDepth 100000 in
theorem num_known_round.calls (g : Nat) (s0_0 : Int) (s0_1 : Int) (s0_2 : Int) (s0_3 : Int) (s0_4 : Int) (s0_5 : Int) (r1 : Bool) (r2 : Int) (r3 : Int) (r4 : Int) (r5 : Int) (r6 : Int) (r7 : Int) (w0 w : World) (hI : IsS66 w0 w g s0_0 s0_1 s0_2 s0_3 s0_4 s0_5) (hB : Below w0.heap.size w0 w) (h : num_known_round.f s0_0 s0_1 s0_2 s0_3 s0_4 s0_5 = some (r1, r2, r3, r4, r5, r6, r7)) :
  Calls Try.prog 53 #[.pointer (some ⟨g, 0, none⟩)] w fun e w' => e = .returned (.bool r1) ∧ IsS66 w0 w' g r2 r3 r4 r5 r6 r7 ∧ Below w0.heap.size w0 w' ∧ KeepBut w w' g none := by
 obtain ⟨c0, c1, c2, c3, c4, c5⟩ := num_cells hI
 have HI := Aside0.mk hI
 have HB := Aside0.mk hB
 have HF := Aside0.mk h
 clear hI hB h
 go_enter Try.func53, Try.ntmps53
 go_wp2
 go_quiet (fail)
 go_wp2_with fail
 with_reducible refine (num_known_unsigned.calls g _ _ _ _ _ _ _ _ _ _ _ _ _ _ w0 _ (HI.out.drewN _) (pw_below_drewN HB.out _) rfl).mono ?_
 rintro e w1 ⟨rfl, hI1, hB1, hK1⟩
 obtain ⟨d0, d1, d2, d3, d4, d5⟩ := num_cells hI1
 clear c0 c1 c2 c3 c4 c5
 have HI1 := Aside0.mk hI1
 have HB1 := Aside0.mk hB1
 have HK1 := Aside0.mk (KeepBut.trans (KeepBut.of_below (Drawn0.below ⟨⟨_, rfl⟩⟩) g none) hK1 (.inl rfl))
 clear hI1 hB1 hK1 HI HB
 go_wp2
 go_still_tail 21, (by kernel_rfl)
 change wpList _ _ _ _ _ w1.drew
 go_wp2_with fail
 with_reducible refine (num_known_signed.calls g _ _ _ _ _ _ _ _ _ _ _ _ _ _ w0 _ (HI1.out.drew) (below_drew1 HB1.out) rfl).mono ?_
 rintro e w2 ⟨rfl, hI2, hB2, hK2⟩
 obtain ⟨A2, hA2⟩ : ∃ x, mx s0_2 (bits .andNot .u64 s0_0 s0_1) = x := ⟨_, rfl⟩
 obtain ⟨A3, hA3⟩ : ∃ x, mn s0_3 (bits .or .u64 (bits .andNot .u64 s0_0 s0_1) s0_1) = x := ⟨_, rfl⟩
 obtain ⟨A4, hA4⟩ : ∃ x, mx s0_4 (wrap64 (bits .or .u64 (bits .andNot .u64 s0_0 s0_1) (bits .and .u64 s0_1 9223372036854775808))) = x := ⟨_, rfl⟩
 obtain ⟨A5, hA5⟩ : ∃ x, mn s0_5 (wrap64 (bits .or .u64 (bits .andNot .u64 s0_0 s0_1) (bits .andNot .u64 s0_1 9223372036854775808))) = x := ⟨_, rfl⟩
 have hI2' : IsS66 w0 w2 g s0_0 s0_1 (mx s0_2 (bits .andNot .u64 s0_0 s0_1)) (mn s0_3 (bits .or .u64 (bits .andNot .u64 s0_0 s0_1) s0_1)) (mx s0_4 (wrap64 (bits .or .u64 (bits .andNot .u64 s0_0 s0_1) (bits .and .u64 s0_1 9223372036854775808)))) (mn s0_5 (wrap64 (bits .or .u64 (bits .andNot .u64 s0_0 s0_1) (bits .andNot .u64 s0_1 9223372036854775808)))) := hI2
 rw [hA2, hA3, hA4, hA5] at hI2'
 have HF2 : Aside0 (num_rMid s0_0 s0_1 A2 A3 A4 A5 = some (r1, r2, r3, r4, r5, r6, r7)) := ⟨by rw [← hA2, ← hA3, ← hA4, ← hA5]; exact HF.out⟩
 have HK2 := Aside0.mk (KeepBut.trans HK1.out (show KeepBut w1 w2 g none from hK2) (.inl rfl))
 clear hA2 hA3 hA4 hA5 d0 d1 d2 d3 d4 d5 HI1 HB1 HK1 hI2 HF hK2
 obtain ⟨c0, c1, c2, c3, c4, c5⟩ := num_cells hI2'
 have HI2 := Aside0.mk hI2'
 have HB2 := Aside0.mk hB2
 clear hI2' hB2
 go_wp2
 go_quiet (fail)
 have hI3 := HI2.out.drewN nq
 have hB3 := pw_below_drewN HB2.out nq
 have hK3 := KeepBut.trans HK2.out (KeepBut.of_below (Drawn0.below (w := w2) (w' := w2.drewN nq) ⟨⟨_, rfl⟩⟩) g none) (.inl rfl)
 generalize w2.drewN nq = wn at hI3 hB3 hK3 ⊢
 clear c0 c1 c2 c3 c4 c5 HI2 HB2 HK2 w2
 obtain ⟨c0, c1, c2, c3, c4, c5⟩ := num_cells hI3
 have HI2 := Aside0.mk hI3
 have HB2 := Aside0.mk hB3
 have HK2 := Aside0.mk hK3
 clear hI3 hB3 hK3
 go_upto_if 66 with (fail)
 go_cut [] (fun wc => IsS66 w0 wc g s0_0 s0_1 A2 A3 (num_rB4 A2 A3 A4) (num_rB5 A2 A3 A5) ∧ Below w0.heap.size w0 wc ∧ KeepBut w wc g none)
 case first =>
  by_cases t : (bits .and .u64 A2 9223372036854775808 == bits .and .u64 A3 9223372036854775808) = true
  ·have e4 : num_rB4 A2 A3 A4 = mx A4 (wrap64 A2) := by unfold num_rB4; rw [if_pos t]
   have e5 : num_rB5 A2 A3 A5 = mn A5 (wrap64 A3) := by unfold num_rB5; rw [if_pos t]
   have E4 := Aside0.mk e4
   have E5 := Aside0.mk e5
   clear e4 e5
   go_wp2
   go_still_tail 13, (by kernel_rfl)
   change wpList _ _ _ _ _ wn.drew
   go_wp2_with fail
   with_reducible refine (num_known_signed.calls g _ _ _ _ _ _ _ _ _ _ _ _ _ _ w0 _ (HI2.out.drew) (below_drew1 HB2.out) rfl).mono ?_
   rintro e w3 ⟨rfl, hI3, hB3, hK3⟩
   have hK3' := KeepBut.trans HK2.out (KeepBut.trans (KeepBut.of_below (Drawn0.below (w := wn) (w' := wn.drew) ⟨⟨_, rfl⟩⟩) g none) (show KeepBut wn.drew w3 g none from hK3) (.inl rfl)) (.inl rfl)
   have hI3' : IsS66 w0 w3 g s0_0 s0_1 A2 A3 (num_rB4 A2 A3 A4) (num_rB5 A2 A3 A5) := by rw [E4.out, E5.out]; exact hI3
   clear hI3 hK3 c0 c1 c2 c3 c4 c5
   go_wp2
   go_meet
   case rel => exact ⟨hI3', hB3, hK3'⟩
  ·have e4 : num_rB4 A2 A3 A4 = A4 := by unfold num_rB4; rw [if_neg t]
   have e5 : num_rB5 A2 A3 A5 = A5 := by unfold num_rB5; rw [if_neg t]
   go_wp2
   go_meet
   case rel => rw [e4, e5]; exact ⟨HI2.out, HB2.out, HK2.out⟩
 case rest =>
  obtain ⟨hI3, hB3, hK3⟩ := hcut
  have HF3 : Aside0 (num_rEnd s0_0 s0_1 (num_rC2 A2 (num_rB4 A2 A3 A4) (num_rB5 A2 A3 A5)) (num_rC3 A3 (num_rB4 A2 A3 A4) (num_rB5 A2 A3 A5)) (num_rB4 A2 A3 A4) (num_rB5 A2 A3 A5) = some (r1, r2, r3, r4, r5, r6, r7)) := ⟨HF2.out⟩
  generalize num_rB4 A2 A3 A4 = B4 at hI3 HF3
  generalize num_rB5 A2 A3 A5 = B5 at hI3 HF3
  clear HF2
  obtain ⟨c0, c1, c2, c3, c4, c5⟩ := num_cells hI3
  have HI2 := Aside0.mk hI3
  have HB2 := Aside0.mk hB3
  have HK2 := Aside0.mk hK3
  clear hI3 hB3 hK3
  go_wp2
  go_quiet (fail)
  have hI3 := HI2.out.drewN nq
  have hB3 := pw_below_drewN HB2.out nq
  have hK3 := KeepBut.trans HK2.out (KeepBut.of_below (Drawn0.below (w := wc) (w' := wc.drewN nq) ⟨⟨_, rfl⟩⟩) g none) (.inl rfl)
  generalize wc.drewN nq = wn at hI3 hB3 hK3 ⊢
  clear c0 c1 c2 c3 c4 c5 HI2 HB2 HK2 wc
  obtain ⟨c0, c1, c2, c3, c4, c5⟩ := num_cells hI3
  have HI2 := Aside0.mk hI3
  have HB2 := Aside0.mk hB3
  have HK2 := Aside0.mk hK3
  clear hI3 hB3 hK3
  go_upto_if 93 with (fail)
  go_cut [] (fun wc => IsS66 w0 wc g s0_0 s0_1 (num_rC2 A2 B4 B5) (num_rC3 A3 B4 B5) B4 B5 ∧ Below w0.heap.size w0 wc ∧ KeepBut w wc g none)
  case first =>
   by_cases t : (decide (B4 < 0) == decide (B5 < 0)) = true
   ·have e4 : num_rC2 A2 B4 B5 = mx A2 (IntKind.u64.wrap B4) := by unfold num_rC2; rw [if_pos t]
    have e5 : num_rC3 A3 B4 B5 = mn A3 (IntKind.u64.wrap B5) := by unfold num_rC3; rw [if_pos t]
    have E4 := Aside0.mk e4
    have E5 := Aside0.mk e5
    clear e4 e5
    go_wp2
    any_goals (first | (rename_i hh; exact absurd t (by rw [hh]; decide)) | skip)
    go_still_tail 13, (by kernel_rfl)
    change wpList _ _ _ _ _ wn.drew
    go_wp2_with fail
    with_reducible refine (num_known_unsigned.calls g _ _ _ _ _ _ _ _ _ _ _ _ _ _ w0 _ (HI2.out.drew) (below_drew1 HB2.out) rfl).mono ?_
    rintro e w3 ⟨rfl, hI3, hB3, hK3⟩
    have hK3' := KeepBut.trans HK2.out (KeepBut.trans (KeepBut.of_below (Drawn0.below (w := wn) (w' := wn.drew) ⟨⟨_, rfl⟩⟩) g none) (show KeepBut wn.drew w3 g none from hK3) (.inl rfl)) (.inl rfl)
    have hI3' : IsS66 w0 w3 g s0_0 s0_1 (num_rC2 A2 B4 B5) (num_rC3 A3 B4 B5) B4 B5 := by rw [E4.out, E5.out]; exact hI3
    clear hI3 hK3 c0 c1 c2 c3 c4 c5
    go_wp2
    go_meet
    case rel => exact ⟨hI3', hB3, hK3'⟩
   ·have e4 : num_rC2 A2 B4 B5 = A2 := by unfold num_rC2; rw [if_neg t]
    have e5 : num_rC3 A3 B4 B5 = A3 := by unfold num_rC3; rw [if_neg t]
    go_wp2
    go_meet
    case rel => rw [e4, e5]; exact ⟨HI2.out, HB2.out, HK2.out⟩
  case rest =>
   obtain ⟨hI3, hB3, hK3⟩ := hcut
   generalize num_rC2 A2 B4 B5 = C2 at hI3 HF3
   generalize num_rC3 A3 B4 B5 = C3 at hI3 HF3
   obtain ⟨c0, c1, c2, c3, c4, c5⟩ := num_cells hI3
   have HI2 := Aside0.mk hI3
   have HB2 := Aside0.mk hB3
   have HK2 := Aside0.mk hK3
   clear hI3 hB3 hK3
   have hf := HF3.out
   unfold num_rEnd at hf
   by_cases q1 : C3 < C2
   ·rw [if_pos q1] at hf
    simp only [Option.some.injEq, Prod.mk.injEq] at hf
    obtain ⟨rfl, rfl, rfl, rfl, rfl, rfl, rfl⟩ := hf
    go_wp2
    go_quiet (fail)
    go_wp2
    go_ret
    exact ⟨rfl, HI2.out.drewN nq, pw_below_drewN HB2.out nq, KeepBut.trans HK2.out (KeepBut.of_below (Drawn0.below (w := wc) (w' := wc.drewN nq) ⟨⟨_, rfl⟩⟩) g none) (.inl rfl)⟩
   ·rw [if_neg q1] at hf
    by_cases q2 : B5 < B4
    ·rw [if_pos q2] at hf
     simp only [Option.some.injEq, Prod.mk.injEq] at hf
     obtain ⟨rfl, rfl, rfl, rfl, rfl, rfl, rfl⟩ := hf
     go_wp2
     go_quiet (fail)
     go_wp2
     go_ret
     exact ⟨rfl, HI2.out.drewN nq, pw_below_drewN HB2.out nq, KeepBut.trans HK2.out (KeepBut.of_below (Drawn0.below (w := wc) (w' := wc.drewN nq) ⟨⟨_, rfl⟩⟩) g none) (.inl rfl)⟩
    ·rw [if_neg q2] at hf
     obtain ⟨⟨t1, t2⟩, ht, hf⟩ := Option.bind_eq_some_iff.mp hf
     obtain ⟨⟨u1, u2, u3⟩, hu, hf⟩ := Option.bind_eq_some_iff.mp hf
     simp only [Option.some.injEq, Prod.mk.injEq] at hf
     obtain ⟨rfl, rfl, rfl, rfl, rfl, rfl, rfl⟩ := hf
     go_wp2
     go_quiet (fail)
     go_wp2
     have hI3 := HI2.out.drewN nq
     have hB3 := pw_below_drewN HB2.out nq
     have hK3 := KeepBut.trans HK2.out (KeepBut.of_below (Drawn0.below (w := wc) (w' := wc.drewN nq) ⟨⟨_, rfl⟩⟩) g none) (.inl rfl)
     generalize wc.drewN nq = wn at hI3 hB3 hK3 ⊢
     clear c0 c1 c2 c3 c4 c5 HI2 HB2 HK2 HF3 wc q1 q2
     have HI2 := Aside0.mk hI3
     have HB2 := Aside0.mk hB3
     have HK2 := Aside0.mk hK3
     have hI4 := (num_full HI2.out (below_drew1 (Below.refl wn.heap.size wn)))
     clear hI3 hB3 hK3
     go_region_held2 (fun w' => w'.cell? ⟨g, 0, none⟩ = some (.int .u64 s0_0) ∧ w'.cell? ⟨g, 1, none⟩ = some (.int .u64 s0_1) ∧ w'.cell? ⟨g, 2, none⟩ = some (.int .u64 C2) ∧ w'.cell? ⟨g, 3, none⟩ = some (.int .u64 C3) ∧ Below wn.heap.size wn w') ((refine num_full (HI2.out) ?_; first | assumption | exact below_drew1 (Below.refl _ _) | (have hS_ := ‹_ ∧ _ ∧ _ ∧ _ ∧ Below _ _ _›.2.2.2.2; first | exact hS_ | exact below_alloc hS_ _ | exact below_alloc (by assumption) _ | exact below_step hS_ (by assumption) | (refine below_set (below_set hS_ ?_) ?_ <;> (first | exact Nat.le_refl _ | assumption | omega | (have hz1_ := hS_.size; simp only at *; omega)))))) (first | (go_at_call 84; refine (tnum_Range.calls C2 C3 t1 t2 _ ht).mono ?_; rintro e w_ ⟨rfl, hb_⟩; have hs_ := hb_.size; have hw_ := below_step (‹_ ∧ _ ∧ _ ∧ _ ∧ Below _ _ _›.2.2.2.2) hb_; have hs2_ := hw_.size; (try have hz_ := blk_below (blk_new _ (.cells #[.int .u64 0, .int .u64 0] 34 (0, 0))) hb_); (try have hz_ := blk_below (blk_drew (blk_new _ (.cells #[.int .u64 0, .int .u64 0] 34 (0, 0)))) hb_); (try have hz_ := blk_below (o := (.cells #[.int .u64 0, .int .u64 0] 34 (0, 0))) (by assumption) hb_); (try have hc0_ := (blk_cell hz_ 0).trans rfl); (try have hc1_ := (blk_cell hz_ 1).trans rfl); (try have hf0_ := blk_frozen hz_ 0); (try have hf1_ := blk_frozen hz_ 1)) | (go_at_call 57; refine (tnum_Meet.calls s0_0 s0_1 t1 t2 u1 u2 u3 _ hu).mono ?_; rintro e w_ ⟨rfl, hb_⟩; have hs_ := hb_.size; have hw_ := below_step (‹_ ∧ _ ∧ _ ∧ _ ∧ Below _ _ _›.2.2.2.2) hb_; have hs2_ := hw_.size; (try have hz_ := blk_below (blk_new _ (.cells #[.int .u64 0, .int .u64 0] 34 (0, 0))) hb_); (try have hz_ := blk_below (blk_drew (blk_new _ (.cells #[.int .u64 0, .int .u64 0] 34 (0, 0)))) hb_); (try have hz_ := blk_below (o := (.cells #[.int .u64 0, .int .u64 0] 34 (0, 0))) (by assumption) hb_); (try have hc0_ := (blk_cell hz_ 0).trans rfl); (try have hc1_ := (blk_cell hz_ 1).trans rfl); (try have hf0_ := blk_frozen hz_ 0); (try have hf1_ := blk_frozen hz_ 1)))
     all_goals (
      have hA_ := ‹_ ∧ _ ∧ _ ∧ _ ∧ Below _ _ _›.2.2.2.2
      have hI_ := HI2.out.below hA_
      have hg0_ := (blk_cell hI_.1 0).trans rfl
      have hg1_ := (blk_cell hI_.1 1).trans rfl
      have hgf0_ := blk_frozen hI_.1 0
      have hgf1_ := blk_frozen hI_.1 1
      go_wp2
      go_ret
      exact ⟨rfl, (hI_.set_0 _).set_1 _, below_set (below_set (below_step HB2.out hA_) hI_.2) hI_.2, ((KeepBut.trans HK2.out (KeepBut.of_below hA_ g none) (.inl rfl)).set_ 0 _).set_ 1 _⟩)


/-! ### num_Refine: function 19 -/
/-- What is told where nothing is had. -/
def num_none : Option (Int × Int × Int × Int × Int × Int × Bool) := (num_All.f).bind fun z => some (z.1, z.2.1, z.2.2.1, z.2.2.2.1, z.2.2.2.2.1, z.2.2.2.2.2, false)
def num_Refine.l0 : Nat → Int → Int → Int → Int → Int → Int → Int → Option (Int × Int × Int × Int × Int × Int × Bool)
 | 0, _, _, _, _, _, _, _ => none
 | k + 1, i, s0, s1, s2, s3, s4, s5 => if i < 2 then (num_known_round.f s0 s1 s2 s3 s4 s5).bind fun t => (if t.1 = true then num_Refine.l0 k (wrap64 (i + 1)) t.2.1 t.2.2.1 t.2.2.2.1 t.2.2.2.2.1 t.2.2.2.2.2.1 t.2.2.2.2.2.2 else num_none) else some (s0, s1, s2, s3, s4, s5, true)
def num_Refine.f (a0_0 : Int) (a0_1 : Int) (a0_2 : Int) (a0_3 : Int) (a0_4 : Int) (a0_5 : Int) : Option (Int × Int × Int × Int × Int × Int × Bool) := num_Refine.l0 3 0 a0_0 a0_1 a0_2 a0_3 a0_4 a0_5
set_option maxHeartbeats 8000000 in
set_option maxRecDepth 100000 in
theorem num_Refine.calls (a0_0 : Int) (a0_1 : Int) (a0_2 : Int) (a0_3 : Int) (a0_4 : Int) (a0_5 : Int) (r1 : Int) (r2 : Int) (r3 : Int) (r4 : Int) (r5 : Int) (r6 : Int) (r7 : Bool) (w : World) (h : num_Refine.f a0_0 a0_1 a0_2 a0_3 a0_4 a0_5 = some (r1, r2, r3, r4, r5, r6, r7)) :
  Calls Try.prog 19 #[.agg #[.int .u64 a0_0, .int .u64 a0_1, .int .u64 a0_2, .int .u64 a0_3, .int .i64 a0_4, .int .i64 a0_5]] w fun e w' => e = .returned (.tuple #[.agg #[.int .u64 r1, .int .u64 r2, .int .u64 r3, .int .u64 r4, .int .i64 r5, .int .i64 r6], .bool r7]) ∧ Below w.heap.size w w' := by
 have hu36 := Try.underlying36
 have hu66 := Try.underlying66
 have H' : Aside0 (num_Refine.l0 3 0 a0_0 a0_1 a0_2 a0_3 a0_4 a0_5 = some (r1, r2, r3, r4, r5, r6, r7)) := ⟨h⟩
 clear h
 go_enter Try.func19, Try.ntmps19
 go_wp2_with (first | ((with_reducible refine gate_dst (N := 1) rfl ?_); refine box_event ?hg (N := 1) ?hd (cs := #[.int .u64 a0_0, .int .u64 a0_1, .int .u64 a0_2, .int .u64 a0_3, .int .i64 a0_4, .int .i64 a0_5]) (t := 36) ?hr ?_; (case hd => rfl); (case hg => rfl); (case hr => first | (go_simp; done) | (go_simp; rfl)); intro g1 hg1_ w1 hx1 hb1; have hg1 := Aside0.mk hg1_; clear hg1_) | ((with_reducible refine gate_dst (N := 2) rfl ?_); refine box_event ?hg (N := 2) ?hd (cs := #[.int .u64 0, .int .u64 0, .int .u64 0, .int .u64 0, .int .i64 0, .int .i64 0]) (t := 36) ?hr ?_; (case hd => rfl); (case hg => rfl); (case hr => first | (go_simp; done) | (go_simp; rfl)); intro g2 hg2_ w2 hx2 hb2; have hg2 := Aside0.mk hg2_; clear hg2_; have hx1' := blk_below hx1 hb2; have hxc0 : w2.cell? ⟨g1, 0, none⟩ = some (.int .u64 a0_0) := (blk_cell hx1' 0).trans rfl; have hxc1 : w2.cell? ⟨g1, 1, none⟩ = some (.int .u64 a0_1) := (blk_cell hx1' 1).trans rfl; have hxc2 : w2.cell? ⟨g1, 2, none⟩ = some (.int .u64 a0_2) := (blk_cell hx1' 2).trans rfl; have hxc3 : w2.cell? ⟨g1, 3, none⟩ = some (.int .u64 a0_3) := (blk_cell hx1' 3).trans rfl; have hxc4 : w2.cell? ⟨g1, 4, none⟩ = some (.int .i64 a0_4) := (blk_cell hx1' 4).trans rfl; have hxc5 : w2.cell? ⟨g1, 5, none⟩ = some (.int .i64 a0_5) := (blk_cell hx1' 5).trans rfl) | ((with_reducible refine gate_dst (N := 7) rfl ?_); refine box_event ?hg (N := 7) ?hd (cs := #[.int .u64 a0_0, .int .u64 a0_1, .int .u64 a0_2, .int .u64 a0_3, .int .i64 a0_4, .int .i64 a0_5]) (t := 66) ?hr ?_; (case hd => rfl); (case hg => rfl); (case hr => first | (go_simp; done) | (go_simp; rfl)); intro g3 hg3_ w3 hx3 hb3; have hg3 := Aside0.mk hg3_; clear hg3_; have hx2' := blk_below hx2 hb3))
 have HB2 := below_step hb1 hb2
 have HB := Aside0.mk (below_step HB2 hb3)
 have HI : Aside0 (IsS66 w w3 g3 a0_0 a0_1 a0_2 a0_3 a0_4 a0_5) := ⟨⟨hx3, by rw [hg3.out]; exact HB2.size⟩⟩
 have HG2 : Aside0 (w.heap.size ≤ g2 ∧ g2 ≠ g3) := ⟨by rw [hg2.out]; exact hb1.size, by rw [hg3.out]; exact Nat.ne_of_lt (blk_lt hx2)⟩
 have BK2 := Aside0.mk hx2'
 clear hb1 hb2 hb3 HB2 hx1 hx2 hx3 hx1' hx2' hg1 hg2 hg3 hxc0 hxc1 hxc2 hxc3 hxc4 hxc5
 go_loopg [8] 3 (fun kq v8 w' => ∃ (i : Int) (s0 : Int) (s1 : Int) (s2 : Int) (s3 : Int) (s4 : Int) (s5 : Int), v8 = .int .i64 i ∧ Aside0 (num_Refine.l0 kq i s0 s1 s2 s3 s4 s5 = some (r1, r2, r3, r4, r5, r6, r7)) ∧ Aside0 (kq ≤ 3) ∧ Aside0 (w'.heap[g2]? = some (.cells #[.int .u64 0, .int .u64 0, .int .u64 0, .int .u64 0, .int .i64 0, .int .i64 0] 36 (0, 0))) ∧ Aside0 (IsS66 w w' g3 s0 s1 s2 s3 s4 s5) ∧ Aside0 (Below w.heap.size w w'))
 case atStart => exact ⟨0, a0_0, a0_1, a0_2, a0_3, a0_4, a0_5, rfl, H', ⟨Nat.le_refl _⟩, BK2, HI, HB⟩
 case round =>
  clear H' BK2 HI HB
  obtain ⟨i, s0, s1, s2, s3, s4, s5, rfl, HA, HK1, BK2, HI, HB⟩ := hrel
  cases gk with
  | zero => exact absurd HA.out (by simp [num_Refine.l0])
  | succ k1 =>
   have H := HA.out
   clear HA
   rw [num_Refine.l0] at H
   obtain ⟨c0, c1, c2, c3, c4, c5⟩ := num_cells HI.out
   have z := BK2.out
   by_cases c : i < 2
   ·rw [if_pos c] at H
    have cb : decide (i < 2) = true := decide_eq_true c
    obtain ⟨⟨t1, t2, t3, t4, t5, t6, t7⟩, hr, H⟩ := Option.bind_eq_some_iff.mp H
    have H := Aside0.mk H
    have HR := Aside0.mk hr
    clear hr c
    go_wp2_with fail
    with_reducible refine (num_known_round.calls g3 _ _ _ _ _ _ t1 t2 t3 t4 t5 t6 t7 w _ HI.out HB.out HR.out).mono ?_
    rintro e w4 ⟨rfl, hI, hB, hK⟩
    have z4 : w4.heap[g2]? = some (.cells #[.int .u64 0, .int .u64 0, .int .u64 0, .int .u64 0, .int .i64 0, .int .i64 0] 36 (0, 0)) := (hK.2 g2 (blk_lt z) HG2.out.2 (by simp)).trans z
    clear z BK2 HI HB hK c0 c1 c2 c3 c4 c5
    cases t1 with
    | true =>
     have H' := Aside0.mk (show num_Refine.l0 k1 (wrap64 (i + 1)) t2 t3 t4 t5 t6 t7 = some (r1, r2, r3, r4, r5, r6, r7) from (if_pos rfl).symm.trans H.out)
     go_wp2
     go_roundg k1
     case measure => have := HK1.out; omega
     case rel => exact ⟨wrap64 (i + 1), t2, t3, t4, t5, t6, t7, rfl, H', ⟨by have := HK1.out; omega⟩, ⟨z4⟩, ⟨hI⟩, ⟨hB⟩⟩
    | false =>
     have H2 : num_none = some (r1, r2, r3, r4, r5, r6, r7) := (if_neg (by decide)).symm.trans H.out
     unfold num_none at H2
     obtain ⟨⟨z1, z2, z3, z4', z5, z6⟩, hA, H2⟩ := Option.bind_eq_some_iff.mp H2
     simp only [Option.some.injEq, Prod.mk.injEq] at H2
     obtain ⟨rfl, rfl, rfl, rfl, rfl, rfl, rfl⟩ := H2
     have HA := Aside0.mk hA
     clear hA H
     go_wp2_with fail
     with_reducible refine (num_All.calls _ _ _ _ _ _ _ HA.out).mono ?_
     rintro e w5 ⟨rfl, hb5⟩
     have z5w := blk_below z4 hb5
     have hzc0 : w5.cell? ⟨g2, 0, none⟩ = some (.int .u64 0) := (blk_cell z5w 0).trans rfl; have hzf0 := blk_frozen z5w 0; have hzc1 : w5.cell? ⟨g2, 1, none⟩ = some (.int .u64 0) := (blk_cell z5w 1).trans rfl; have hzf1 := blk_frozen z5w 1; have hzc2 : w5.cell? ⟨g2, 2, none⟩ = some (.int .u64 0) := (blk_cell z5w 2).trans rfl; have hzf2 := blk_frozen z5w 2; have hzc3 : w5.cell? ⟨g2, 3, none⟩ = some (.int .u64 0) := (blk_cell z5w 3).trans rfl; have hzf3 := blk_frozen z5w 3; have hzc4 : w5.cell? ⟨g2, 4, none⟩ = some (.int .i64 0) := (blk_cell z5w 4).trans rfl; have hzf4 := blk_frozen z5w 4; have hzc5 : w5.cell? ⟨g2, 5, none⟩ = some (.int .i64 0) := (blk_cell z5w 5).trans rfl; have hzf5 := blk_frozen z5w 5
     have HB5 := below_step hB hb5
     clear z4 hI hB hb5
     go_wp2
     refine bodyPost_ret (results_ct rfl _ _ g2 36 #[.int .u64 z1, .int .u64 z2, .int .u64 z3, .int .u64 z4', .int .i64 z5, .int .i64 z6] (0, 0) _ rfl (by (with_reducible repeat (first | refine blk_drewN ?_ _ | refine blk_drew ?_ | refine blk_alloc ?_ _)); refine blk_put (cs := #[.int .u64 z1, .int .u64 z2, .int .u64 z3, .int .u64 z4', .int .i64 z5, .int .i64 0]) ?_ 5 _ rfl; (with_reducible repeat (first | refine blk_drewN ?_ _ | refine blk_drew ?_ | refine blk_alloc ?_ _)); refine blk_put (cs := #[.int .u64 z1, .int .u64 z2, .int .u64 z3, .int .u64 z4', .int .i64 0, .int .i64 0]) ?_ 4 _ rfl; (with_reducible repeat (first | refine blk_drewN ?_ _ | refine blk_drew ?_ | refine blk_alloc ?_ _)); refine blk_put (cs := #[.int .u64 z1, .int .u64 z2, .int .u64 z3, .int .u64 0, .int .i64 0, .int .i64 0]) ?_ 3 _ rfl; (with_reducible repeat (first | refine blk_drewN ?_ _ | refine blk_drew ?_ | refine blk_alloc ?_ _)); refine blk_put (cs := #[.int .u64 z1, .int .u64 z2, .int .u64 0, .int .u64 0, .int .i64 0, .int .i64 0]) ?_ 2 _ rfl; (with_reducible repeat (first | refine blk_drewN ?_ _ | refine blk_drew ?_ | refine blk_alloc ?_ _)); refine blk_put (cs := #[.int .u64 z1, .int .u64 0, .int .u64 0, .int .u64 0, .int .i64 0, .int .i64 0]) ?_ 1 _ rfl; (with_reducible repeat (first | refine blk_drewN ?_ _ | refine blk_drew ?_ | refine blk_alloc ?_ _)); refine blk_put (cs := #[.int .u64 0, .int .u64 0, .int .u64 0, .int .u64 0, .int .i64 0, .int .i64 0]) ?_ 0 _ rfl; (with_reducible repeat (first | refine blk_drewN ?_ _ | refine blk_drew ?_ | refine blk_alloc ?_ _)); exact z5w) Try.underlying36 rfl (by kernel_rfl)) rfl ?_
     exact ⟨rfl, by repeat (first | exact HB5 | refine below_set ?_ HG2.out.1)⟩
   ·rw [if_neg c] at H
    have cb : decide (i < 2) = false := decide_eq_false c
    simp only [Option.some.injEq, Prod.mk.injEq] at H
    obtain ⟨rfl, rfl, rfl, rfl, rfl, rfl, rfl⟩ := H
    have hzc0 : World.cell? _ ⟨g2, 0, none⟩ = some (.int .u64 0) := (blk_cell z 0).trans rfl; have hzf0 := blk_frozen z 0; have hzc1 : World.cell? _ ⟨g2, 1, none⟩ = some (.int .u64 0) := (blk_cell z 1).trans rfl; have hzf1 := blk_frozen z 1; have hzc2 : World.cell? _ ⟨g2, 2, none⟩ = some (.int .u64 0) := (blk_cell z 2).trans rfl; have hzf2 := blk_frozen z 2; have hzc3 : World.cell? _ ⟨g2, 3, none⟩ = some (.int .u64 0) := (blk_cell z 3).trans rfl; have hzf3 := blk_frozen z 3; have hzc4 : World.cell? _ ⟨g2, 4, none⟩ = some (.int .i64 0) := (blk_cell z 4).trans rfl; have hzf4 := blk_frozen z 4; have hzc5 : World.cell? _ ⟨g2, 5, none⟩ = some (.int .i64 0) := (blk_cell z 5).trans rfl; have hzf5 := blk_frozen z 5
    have hne1 := HG2.out.2
    have hne2 := HG2.out.2.symm
    go_wp2
    refine bodyPost_ret (results_ct rfl _ _ g2 36 #[.int .u64 s0, .int .u64 s1, .int .u64 s2, .int .u64 s3, .int .i64 s4, .int .i64 s5] (0, 0) _ rfl (by (with_reducible repeat (first | refine blk_drewN ?_ _ | refine blk_drew ?_ | refine blk_alloc ?_ _)); refine blk_put (cs := #[.int .u64 s0, .int .u64 s1, .int .u64 s2, .int .u64 s3, .int .i64 s4, .int .i64 0]) ?_ 5 _ rfl; (with_reducible repeat (first | refine blk_drewN ?_ _ | refine blk_drew ?_ | refine blk_alloc ?_ _)); refine blk_put (cs := #[.int .u64 s0, .int .u64 s1, .int .u64 s2, .int .u64 s3, .int .i64 0, .int .i64 0]) ?_ 4 _ rfl; (with_reducible repeat (first | refine blk_drewN ?_ _ | refine blk_drew ?_ | refine blk_alloc ?_ _)); refine blk_put (cs := #[.int .u64 s0, .int .u64 s1, .int .u64 s2, .int .u64 0, .int .i64 0, .int .i64 0]) ?_ 3 _ rfl; (with_reducible repeat (first | refine blk_drewN ?_ _ | refine blk_drew ?_ | refine blk_alloc ?_ _)); refine blk_put (cs := #[.int .u64 s0, .int .u64 s1, .int .u64 0, .int .u64 0, .int .i64 0, .int .i64 0]) ?_ 2 _ rfl; (with_reducible repeat (first | refine blk_drewN ?_ _ | refine blk_drew ?_ | refine blk_alloc ?_ _)); refine blk_put (cs := #[.int .u64 s0, .int .u64 0, .int .u64 0, .int .u64 0, .int .i64 0, .int .i64 0]) ?_ 1 _ rfl; (with_reducible repeat (first | refine blk_drewN ?_ _ | refine blk_drew ?_ | refine blk_alloc ?_ _)); refine blk_put (cs := #[.int .u64 0, .int .u64 0, .int .u64 0, .int .u64 0, .int .i64 0, .int .i64 0]) ?_ 0 _ rfl; (with_reducible repeat (first | refine blk_drewN ?_ _ | refine blk_drew ?_ | refine blk_alloc ?_ _)); exact z) Try.underlying36 rfl (by kernel_rfl)) rfl ?_
    exact ⟨rfl, by repeat (first | exact HB.out | refine below_set ?_ HG2.out.1)⟩


/-! ### words_IsSize: function 59 -/
def words_IsSize.f (a0 : Int) : Option (Bool) := if a0 = 1 then (some true) else (if a0 = 2 then (some true) else (if a0 = 4 then (some true) else (some (a0 == 8))))
set_option maxHeartbeats 8000000 in
set_option maxRecDepth 100000 in
theorem words_IsSize.calls (a0 : Int) (r : Bool) (w : World) (h : words_IsSize.f a0 = some r) :
  Calls Try.prog 59 #[.int .i64 a0] w fun e w' => e = .returned (.bool r) ∧ Drawn0 w w' := by
 have H : (if a0 = 1 then (some true) else (if a0 = 2 then (some true) else (if a0 = 4 then (some true) else (some (a0 == 8))))) = some r := h
 clear h
 by_cases c2 : a0 = 1
 ·rw [if_pos c2] at H
  have c2b0 : (a0 == 1) = true := beq_iff_eq.mpr c2
  have c2b1 : (a0 != 1) = false := bne_eq_false_iff_eq.mpr c2
  clear c2
  obtain rfl := Option.some.inj H
  go_enter Try.func59, Try.ntmps59
  go_wp2
  go_ret
  exact ⟨by first | rfl | (simp; done) | (simp [*]; done), by repeat (first | exact Drawn0.refl _ | apply Drawn0.step)⟩
 ·rw [if_neg c2] at H
  have c2b0 : (a0 == 1) = false := beq_eq_false_iff_ne.mpr c2
  have c2b1 : (a0 != 1) = true := bne_iff_ne.mpr c2
  by_cases c3 : a0 = 2
  ·rw [if_pos c3] at H
   have c3b0 : (a0 == 2) = true := beq_iff_eq.mpr c3
   have c3b1 : (a0 != 2) = false := bne_eq_false_iff_eq.mpr c3
   clear c3
   obtain rfl := Option.some.inj H
   go_enter Try.func59, Try.ntmps59
   go_wp2
   go_ret
   exact ⟨by first | rfl | (simp; done) | (simp [*]; done), by repeat (first | exact Drawn0.refl _ | apply Drawn0.step)⟩
  ·rw [if_neg c3] at H
   have c3b0 : (a0 == 2) = false := beq_eq_false_iff_ne.mpr c3
   have c3b1 : (a0 != 2) = true := bne_iff_ne.mpr c3
   by_cases c4 : a0 = 4
   ·rw [if_pos c4] at H
    have c4b0 : (a0 == 4) = true := beq_iff_eq.mpr c4
    have c4b1 : (a0 != 4) = false := bne_eq_false_iff_eq.mpr c4
    clear c4
    obtain rfl := Option.some.inj H
    go_enter Try.func59, Try.ntmps59
    go_wp2
    go_ret
    exact ⟨by first | rfl | (simp; done) | (simp [*]; done), by repeat (first | exact Drawn0.refl _ | apply Drawn0.step)⟩
   ·rw [if_neg c4] at H
    have c4b0 : (a0 == 4) = false := beq_eq_false_iff_ne.mpr c4
    have c4b1 : (a0 != 4) = true := bne_iff_ne.mpr c4
    obtain rfl := Option.some.inj H
    go_enter Try.func59, Try.ntmps59
    go_wp2
    go_ret
    exact ⟨by first | rfl | (simp; done) | (simp [*]; done), by repeat (first | exact Drawn0.refl _ | apply Drawn0.step)⟩

/-! ### words_Zext: function 36 -/
def words_Zext.f (a0 : Int) (a1 : Int) : Option (Int) := (words_IsSize.f a1).bind fun t142 => (if t142 = true then ((words_Low.f (wrap64 (8 * a1))).bind fun t143 => (some (Go.bits .and .u64 a0 t143))) else (some a0))
set_option maxHeartbeats 8000000 in
set_option maxRecDepth 100000 in
theorem words_Zext.calls (a0 : Int) (a1 : Int) (r : Int) (w : World) (h : words_Zext.f a0 a1 = some r) :
  Calls Try.prog 36 #[.int .u64 a0, .int .i64 a1] w fun e w' => e = .returned (.int .u64 r) ∧ Drawn0 w w' := by
 have H : ((words_IsSize.f a1).bind fun t142 => (if t142 = true then ((words_Low.f (wrap64 (8 * a1))).bind fun t143 => (some (Go.bits .and .u64 a0 t143))) else (some a0))) = some r := h
 clear h
 replace H := Option.bind_eq_some_iff.mp H
 obtain ⟨t142, A30, H⟩ := H
 replace H : (if t142 = true then ((words_Low.f (wrap64 (8 * a1))).bind fun t143 => (some (Go.bits .and .u64 a0 t143))) else (some a0)) = some r := H
 have A3 := Aside0.mk A30
 clear A30
 by_cases c4 : t142 = true
 ·subst c4
  have H1 : ((words_Low.f (wrap64 (8 * a1))).bind fun t143 => (some (Go.bits .and .u64 a0 t143))) = some r := by rw [if_pos rfl] at H; exact H
  clear H
  have H := H1
  clear H1
  replace H := Option.bind_eq_some_iff.mp H
  obtain ⟨t143, A50, H⟩ := H
  replace H : (some (Go.bits .and .u64 a0 t143)) = some r := H
  have A5 := Aside0.mk A50
  clear A50
  obtain rfl := Option.some.inj H
  go_enter Try.func36, Try.ntmps36
  go_wp2_with (first | ((with_reducible refine gate_callee (f := 59) rfl ?_); refine goesL_ (some 6) rfl rfl Try.func59 (by kernel_rfl) rfl #[.int .i64 a1] rfl (by (try simp only [List.map_toArray, List.map_cons, List.map_nil]); first | done | rfl | (simp only [List.length_drop, List.length_take]; rfl)) ?_; (with_reducible refine (words_IsSize.calls a1 true _ A3.out).mono ?_); rintro e w' ⟨rfl, ⟨nd, rfl⟩⟩; refine ⟨_, rfl, ?_⟩) | ((with_reducible refine gate_callee (f := 61) rfl ?_); refine goesL_ (some 12) rfl rfl Try.func61 (by kernel_rfl) rfl #[.int .i64 (wrap64 (8 * a1))] rfl (by (try simp only [List.map_toArray, List.map_cons, List.map_nil]); first | done | rfl | (simp only [List.length_drop, List.length_take]; rfl)) ?_; (with_reducible refine (words_Low.calls (wrap64 (8 * a1)) t143 _ A5.out).mono ?_); rintro e w' ⟨rfl, ⟨nd, rfl⟩⟩; refine ⟨_, rfl, ?_⟩))
  go_ret
  exact ⟨by first | rfl | (simp; done) | (simp [*]; done), by repeat (first | exact Drawn0.refl _ | apply Drawn0.step)⟩
 ·replace c4 := Bool.eq_false_iff.mpr c4
  subst c4
  have H1 : (some a0) = some r := by rw [if_neg (show ¬ (false = true) by decide)] at H; exact H
  clear H
  have H := H1
  clear H1
  obtain rfl := Option.some.inj H
  go_enter Try.func36, Try.ntmps36
  go_wp2_with (first | ((with_reducible refine gate_callee (f := 59) rfl ?_); refine goesL_ (some 6) rfl rfl Try.func59 (by kernel_rfl) rfl #[.int .i64 a1] rfl (by (try simp only [List.map_toArray, List.map_cons, List.map_nil]); first | done | rfl | (simp only [List.length_drop, List.length_take]; rfl)) ?_; (with_reducible refine (words_IsSize.calls a1 false _ A3.out).mono ?_); rintro e w' ⟨rfl, ⟨nd, rfl⟩⟩; refine ⟨_, rfl, ?_⟩))
  go_ret
  exact ⟨by first | rfl | (simp; done) | (simp [*]; done), by repeat (first | exact Drawn0.refl _ | apply Drawn0.step)⟩

/-! ### num_Low: function 62 -/
def num_Low.f (a0_0 : Int) (a0_1 : Int) (a0_2 : Int) (a0_3 : Int) (a0_4 : Int) (a0_5 : Int) (a1 : Int) : Option (Bool) := (words_Zext.f a0_3 a1).bind fun t145 => (some (a0_3 == t145))
set_option maxHeartbeats 8000000 in
set_option maxRecDepth 100000 in
theorem num_Low.calls (a0_0 : Int) (a0_1 : Int) (a0_2 : Int) (a0_3 : Int) (a0_4 : Int) (a0_5 : Int) (a1 : Int) (r : Bool) (w : World) (h : num_Low.f a0_0 a0_1 a0_2 a0_3 a0_4 a0_5 a1 = some r) :
  Calls Try.prog 62 #[.agg #[.int .u64 a0_0, .int .u64 a0_1, .int .u64 a0_2, .int .u64 a0_3, .int .i64 a0_4, .int .i64 a0_5], .int .i64 a1] w fun e w' => e = .returned (.bool r) ∧ Below w.heap.size w w' := by
 have hu36 := Try.underlying36
 have HB := Aside0.mk (Below.refl w.heap.size w)
 have H : ((words_Zext.f a0_3 a1).bind fun t145 => (some (a0_3 == t145))) = some r := h
 clear h
 replace H := Option.bind_eq_some_iff.mp H
 obtain ⟨t145, A30, H⟩ := H
 replace H : (some (a0_3 == t145)) = some r := H
 have A3 := Aside0.mk A30
 clear A30
 obtain rfl := Option.some.inj H
 go_enter Try.func62, Try.ntmps62
 go_wp2_with (first | ((with_reducible refine gate_dst (N := 2) rfl ?_); refine box_event ?hg (N := 2) ?hd (cs := #[.int .u64 a0_0, .int .u64 a0_1, .int .u64 a0_2, .int .u64 a0_3, .int .i64 a0_4, .int .i64 a0_5]) (t := 36) ?hr ?_; (case hd => rfl); (case hg => rfl); (case hr => first | (go_simp; done) | (go_simp; rfl)); intro gb144 hg w4 hbox hb; have n0_ := Aside0.mk (below_step (by repeat (first | (with_reducible first | exact HB.out | apply below_alloc | apply pw_below_drewN | apply below_drew1) | exact HB.out)) hb); have n1_ := Aside0.mk (hbox); have n2_ := Aside0.mk ((by rw [hg]; exact (below_size (by repeat (first | (with_reducible first | exact HB.out | apply below_alloc | apply pw_below_drewN | apply below_drew1) | exact HB.out))) : w.heap.size ≤ gb144)); have n3_ := Aside0.mk ((by rw [hg]; exact (below_size (by repeat (first | (with_reducible first | exact HB.out | apply below_alloc | apply pw_below_drewN | apply below_drew1) | exact HB.out))) : w.heap.size ≤ gb144)); clear HB; have HB := n0_; have BK144 := n1_; have GW144 := n2_; have GE144 := n3_; clear n0_ n1_ n2_ n3_; clear hb hbox hg; have hcz5_0 : w4.cell? ⟨gb144, 0, none⟩ = some (.int .u64 a0_0) := (blk_cell BK144.out 0).trans rfl; have hcz5_1 : w4.cell? ⟨gb144, 1, none⟩ = some (.int .u64 a0_1) := (blk_cell BK144.out 1).trans rfl; have hcz5_2 : w4.cell? ⟨gb144, 2, none⟩ = some (.int .u64 a0_2) := (blk_cell BK144.out 2).trans rfl; have hcz5_3 : w4.cell? ⟨gb144, 3, none⟩ = some (.int .u64 a0_3) := (blk_cell BK144.out 3).trans rfl; have hcz5_4 : w4.cell? ⟨gb144, 4, none⟩ = some (.int .i64 a0_4) := (blk_cell BK144.out 4).trans rfl; have hcz5_5 : w4.cell? ⟨gb144, 5, none⟩ = some (.int .i64 a0_5) := (blk_cell BK144.out 5).trans rfl; have hfz5_0 := blk_frozen BK144.out 0; have hfz5_1 := blk_frozen BK144.out 1; have hfz5_2 := blk_frozen BK144.out 2; have hfz5_3 := blk_frozen BK144.out 3; have hfz5_4 := blk_frozen BK144.out 4; have hfz5_5 := blk_frozen BK144.out 5) | (go_at_call 36; (with_reducible refine (words_Zext.calls a0_3 a1 t145 _ A3.out).mono ?_); rintro e w' ⟨rfl, ⟨nd, rfl⟩⟩; (try first | exact ⟨rfl, _, World.drewN_drewN _ _ _⟩ | exact ⟨rfl, _, Eq.trans (World.drewN_drewN _ _ _) (congrArg (World.drewN _) (Nat.add_assoc _ _ _))⟩)))
 repeat (go_quiet (first | ((with_reducible refine gate_dst (N := 2) rfl ?_); refine box_event ?hg (N := 2) ?hd (cs := #[.int .u64 a0_0, .int .u64 a0_1, .int .u64 a0_2, .int .u64 a0_3, .int .i64 a0_4, .int .i64 a0_5]) (t := 36) ?hr ?_; (case hd => rfl); (case hg => rfl); (case hr => first | (go_simp; done) | (go_simp; rfl)); intro gb144 hg w4 hbox hb; have n0_ := Aside0.mk (below_step (by repeat (first | (with_reducible first | exact HB.out | apply below_alloc | apply pw_below_drewN | apply below_drew1) | exact HB.out)) hb); have n1_ := Aside0.mk (hbox); have n2_ := Aside0.mk ((by rw [hg]; exact (below_size (by repeat (first | (with_reducible first | exact HB.out | apply below_alloc | apply pw_below_drewN | apply below_drew1) | exact HB.out))) : w.heap.size ≤ gb144)); have n3_ := Aside0.mk ((by rw [hg]; exact (below_size (by repeat (first | (with_reducible first | exact HB.out | apply below_alloc | apply pw_below_drewN | apply below_drew1) | exact HB.out))) : w.heap.size ≤ gb144)); clear HB; have HB := n0_; have BK144 := n1_; have GW144 := n2_; have GE144 := n3_; clear n0_ n1_ n2_ n3_; clear hb hbox hg; have hcz5_0 : w4.cell? ⟨gb144, 0, none⟩ = some (.int .u64 a0_0) := (blk_cell BK144.out 0).trans rfl; have hcz5_1 : w4.cell? ⟨gb144, 1, none⟩ = some (.int .u64 a0_1) := (blk_cell BK144.out 1).trans rfl; have hcz5_2 : w4.cell? ⟨gb144, 2, none⟩ = some (.int .u64 a0_2) := (blk_cell BK144.out 2).trans rfl; have hcz5_3 : w4.cell? ⟨gb144, 3, none⟩ = some (.int .u64 a0_3) := (blk_cell BK144.out 3).trans rfl; have hcz5_4 : w4.cell? ⟨gb144, 4, none⟩ = some (.int .i64 a0_4) := (blk_cell BK144.out 4).trans rfl; have hcz5_5 : w4.cell? ⟨gb144, 5, none⟩ = some (.int .i64 a0_5) := (blk_cell BK144.out 5).trans rfl; have hfz5_0 := blk_frozen BK144.out 0; have hfz5_1 := blk_frozen BK144.out 1; have hfz5_2 := blk_frozen BK144.out 2; have hfz5_3 := blk_frozen BK144.out 3; have hfz5_4 := blk_frozen BK144.out 4; have hfz5_5 := blk_frozen BK144.out 5) | (go_at_call 36; (with_reducible refine (words_Zext.calls a0_3 a1 t145 _ A3.out).mono ?_); rintro e w' ⟨rfl, ⟨nd, rfl⟩⟩; (try first | exact ⟨rfl, _, World.drewN_drewN _ _ _⟩ | exact ⟨rfl, _, Eq.trans (World.drewN_drewN _ _ _) (congrArg (World.drewN _) (Nat.add_assoc _ _ _))⟩))); try go_wp2_with (first | ((with_reducible refine gate_dst (N := 2) rfl ?_); refine box_event ?hg (N := 2) ?hd (cs := #[.int .u64 a0_0, .int .u64 a0_1, .int .u64 a0_2, .int .u64 a0_3, .int .i64 a0_4, .int .i64 a0_5]) (t := 36) ?hr ?_; (case hd => rfl); (case hg => rfl); (case hr => first | (go_simp; done) | (go_simp; rfl)); intro gb144 hg w4 hbox hb; have n0_ := Aside0.mk (below_step (by repeat (first | (with_reducible first | exact HB.out | apply below_alloc | apply pw_below_drewN | apply below_drew1) | exact HB.out)) hb); have n1_ := Aside0.mk (hbox); have n2_ := Aside0.mk ((by rw [hg]; exact (below_size (by repeat (first | (with_reducible first | exact HB.out | apply below_alloc | apply pw_below_drewN | apply below_drew1) | exact HB.out))) : w.heap.size ≤ gb144)); have n3_ := Aside0.mk ((by rw [hg]; exact (below_size (by repeat (first | (with_reducible first | exact HB.out | apply below_alloc | apply pw_below_drewN | apply below_drew1) | exact HB.out))) : w.heap.size ≤ gb144)); clear HB; have HB := n0_; have BK144 := n1_; have GW144 := n2_; have GE144 := n3_; clear n0_ n1_ n2_ n3_; clear hb hbox hg; have hcz5_0 : w4.cell? ⟨gb144, 0, none⟩ = some (.int .u64 a0_0) := (blk_cell BK144.out 0).trans rfl; have hcz5_1 : w4.cell? ⟨gb144, 1, none⟩ = some (.int .u64 a0_1) := (blk_cell BK144.out 1).trans rfl; have hcz5_2 : w4.cell? ⟨gb144, 2, none⟩ = some (.int .u64 a0_2) := (blk_cell BK144.out 2).trans rfl; have hcz5_3 : w4.cell? ⟨gb144, 3, none⟩ = some (.int .u64 a0_3) := (blk_cell BK144.out 3).trans rfl; have hcz5_4 : w4.cell? ⟨gb144, 4, none⟩ = some (.int .i64 a0_4) := (blk_cell BK144.out 4).trans rfl; have hcz5_5 : w4.cell? ⟨gb144, 5, none⟩ = some (.int .i64 a0_5) := (blk_cell BK144.out 5).trans rfl; have hfz5_0 := blk_frozen BK144.out 0; have hfz5_1 := blk_frozen BK144.out 1; have hfz5_2 := blk_frozen BK144.out 2; have hfz5_3 := blk_frozen BK144.out 3; have hfz5_4 := blk_frozen BK144.out 4; have hfz5_5 := blk_frozen BK144.out 5) | (go_at_call 36; (with_reducible refine (words_Zext.calls a0_3 a1 t145 _ A3.out).mono ?_); rintro e w' ⟨rfl, ⟨nd, rfl⟩⟩; (try first | exact ⟨rfl, _, World.drewN_drewN _ _ _⟩ | exact ⟨rfl, _, Eq.trans (World.drewN_drewN _ _ _) (congrArg (World.drewN _) (Nat.add_assoc _ _ _))⟩))))
 go_ret
 exact ⟨by first | rfl | (simp [errW_none, errW_some] <;> rfl) | (simp [*, errW_none, errW_some] <;> rfl), by repeat (first | (with_reducible first | exact HB.out | apply below_alloc | apply pw_below_drewN | apply below_drew1 | refine below_set ?_ GE144.out) | exact HB.out)⟩

-- NOT PRINTED: function 95 (narrow_turned)

-- NOT PRINTED: function 69 (narrow_ways)

/-! ### narrow_hasSign: function 70 -/
def narrow_hasSign.f (a0 : Int) : Option (Bool) := if a0 = 96 then (some true) else (if a0 = 112 then (some true) else (if a0 = 192 then (some true) else (some (a0 == 208))))
set_option maxHeartbeats 8000000 in
set_option maxRecDepth 100000 in
theorem narrow_hasSign.calls (a0 : Int) (r : Bool) (w : World) (h : narrow_hasSign.f a0 = some r) :
  Calls Try.prog 70 #[.int .u8 a0] w fun e w' => e = .returned (.bool r) ∧ Drawn0 w w' := by
 have H : (if a0 = 96 then (some true) else (if a0 = 112 then (some true) else (if a0 = 192 then (some true) else (some (a0 == 208))))) = some r := h
 clear h
 by_cases c2 : a0 = 96
 ·rw [if_pos c2] at H
  have c2b0 : (a0 == 96) = true := beq_iff_eq.mpr c2
  have c2b1 : (a0 != 96) = false := bne_eq_false_iff_eq.mpr c2
  clear c2
  obtain rfl := Option.some.inj H
  go_enter Try.func70, Try.ntmps70
  go_wp2
  go_ret
  exact ⟨by first | rfl | (simp; done) | (simp [*]; done), by repeat (first | exact Drawn0.refl _ | apply Drawn0.step)⟩
 ·rw [if_neg c2] at H
  have c2b0 : (a0 == 96) = false := beq_eq_false_iff_ne.mpr c2
  have c2b1 : (a0 != 96) = true := bne_iff_ne.mpr c2
  by_cases c3 : a0 = 112
  ·rw [if_pos c3] at H
   have c3b0 : (a0 == 112) = true := beq_iff_eq.mpr c3
   have c3b1 : (a0 != 112) = false := bne_eq_false_iff_eq.mpr c3
   clear c3
   obtain rfl := Option.some.inj H
   go_enter Try.func70, Try.ntmps70
   go_wp2
   go_ret
   exact ⟨by first | rfl | (simp; done) | (simp [*]; done), by repeat (first | exact Drawn0.refl _ | apply Drawn0.step)⟩
  ·rw [if_neg c3] at H
   have c3b0 : (a0 == 112) = false := beq_eq_false_iff_ne.mpr c3
   have c3b1 : (a0 != 112) = true := bne_iff_ne.mpr c3
   by_cases c4 : a0 = 192
   ·rw [if_pos c4] at H
    have c4b0 : (a0 == 192) = true := beq_iff_eq.mpr c4
    have c4b1 : (a0 != 192) = false := bne_eq_false_iff_eq.mpr c4
    clear c4
    obtain rfl := Option.some.inj H
    go_enter Try.func70, Try.ntmps70
    go_wp2
    go_ret
    exact ⟨by first | rfl | (simp; done) | (simp [*]; done), by repeat (first | exact Drawn0.refl _ | apply Drawn0.step)⟩
   ·rw [if_neg c4] at H
    have c4b0 : (a0 == 192) = false := beq_eq_false_iff_ne.mpr c4
    have c4b1 : (a0 != 192) = true := bne_iff_ne.mpr c4
    obtain rfl := Option.some.inj H
    go_enter Try.func70, Try.ntmps70
    go_wp2
    go_ret
    exact ⟨by first | rfl | (simp; done) | (simp [*]; done), by repeat (first | exact Drawn0.refl _ | apply Drawn0.step)⟩

/-! ### num_Meet: function 21 -/
def num_Meet.f (a0_0 : Int) (a0_1 : Int) (a0_2 : Int) (a0_3 : Int) (a0_4 : Int) (a0_5 : Int) (a1_0 : Int) (a1_1 : Int) (a1_2 : Int) (a1_3 : Int) (a1_4 : Int) (a1_5 : Int) : Option (Int × Int × Int × Int × Int × Int × Bool) := (tnum_Meet.f a0_0 a0_1 a1_0 a1_1).bind fun t => if t.2.2 = true then num_Refine.f t.1 t.2.1 (mx a0_2 a1_2) (mn a0_3 a1_3) (mx a0_4 a1_4) (mn a0_5 a1_5) else num_none
set_option maxHeartbeats 8000000 in
set_option maxRecDepth 100000 in
theorem num_Meet.calls (a0_0 : Int) (a0_1 : Int) (a0_2 : Int) (a0_3 : Int) (a0_4 : Int) (a0_5 : Int) (a1_0 : Int) (a1_1 : Int) (a1_2 : Int) (a1_3 : Int) (a1_4 : Int) (a1_5 : Int) (r1 : Int) (r2 : Int) (r3 : Int) (r4 : Int) (r5 : Int) (r6 : Int) (r7 : Bool) (w : World) (h : num_Meet.f a0_0 a0_1 a0_2 a0_3 a0_4 a0_5 a1_0 a1_1 a1_2 a1_3 a1_4 a1_5 = some (r1, r2, r3, r4, r5, r6, r7)) :
  Calls Try.prog 21 #[.agg #[.int .u64 a0_0, .int .u64 a0_1, .int .u64 a0_2, .int .u64 a0_3, .int .i64 a0_4, .int .i64 a0_5], .agg #[.int .u64 a1_0, .int .u64 a1_1, .int .u64 a1_2, .int .u64 a1_3, .int .i64 a1_4, .int .i64 a1_5]] w fun e w' => e = .returned (.tuple #[.agg #[.int .u64 r1, .int .u64 r2, .int .u64 r3, .int .u64 r4, .int .i64 r5, .int .i64 r6], .bool r7]) ∧ Below w.heap.size w w' := by
 have hu36 := Try.underlying36
 have hu66 := Try.underlying66
 have hu34 := Try.underlying34
 unfold num_Meet.f at h
 obtain ⟨⟨u1, u2, u3⟩, hm, h⟩ := Option.bind_eq_some_iff.mp h
 have HM := Aside0.mk hm
 have H := Aside0.mk h
 clear h hm
 go_enter Try.func21, Try.ntmps21
 go_wp2_with (first | ((with_reducible refine gate_dst (N := 2) rfl ?_); refine box_event ?hg (N := 2) ?hd (cs := #[.int .u64 a0_0, .int .u64 a0_1, .int .u64 a0_2, .int .u64 a0_3, .int .i64 a0_4, .int .i64 a0_5]) (t := 36) ?hr ?_; (case hd => rfl); (case hg => rfl); (case hr => first | (go_simp; done) | (go_simp; rfl)); intro g2 hg_ w2 x2 hb2; have Eg2 := Aside0.mk hg_; clear hg_) | ((with_reducible refine gate_dst (N := 3) rfl ?_); refine box_event ?hg (N := 3) ?hd (cs := #[.int .u64 a1_0, .int .u64 a1_1, .int .u64 a1_2, .int .u64 a1_3, .int .i64 a1_4, .int .i64 a1_5]) (t := 36) ?hr ?_; (case hd => rfl); (case hg => rfl); (case hr => first | (go_simp; done) | (go_simp; rfl)); intro g3 hg_ w3 x3 hb3; have Eg3 := Aside0.mk hg_; clear hg_; have g2lt : g2 < g3 := (by rw [Eg3.out]; exact blk_lt x2); replace x2 := blk_below x2 hb3; replace hb3 := below_step hb2 hb3) | ((with_reducible refine gate_dst (N := 4) rfl ?_); refine box_event ?hg (N := 4) ?hd (cs := #[.int .u64 0, .int .u64 0, .int .u64 0, .int .u64 0, .int .i64 0, .int .i64 0]) (t := 36) ?hr ?_; (case hd => rfl); (case hg => rfl); (case hr => first | (go_simp; done) | (go_simp; rfl)); intro g4 hg_ w4 x4 hb4; have Eg4 := Aside0.mk hg_; clear hg_; have g3lt : g3 < g4 := (by rw [Eg4.out]; exact blk_lt x3); replace x2 := blk_below x2 hb4; replace x3 := blk_below x3 hb4; replace hb4 := below_step hb3 hb4; have pc0 : World.cell? w4 ⟨g2, 0, none⟩ = some (.int .u64 a0_0) := (blk_cell x2 0).trans rfl; have pc1 : World.cell? w4 ⟨g2, 1, none⟩ = some (.int .u64 a0_1) := (blk_cell x2 1).trans rfl; have pc2 : World.cell? w4 ⟨g2, 2, none⟩ = some (.int .u64 a0_2) := (blk_cell x2 2).trans rfl; have pc3 : World.cell? w4 ⟨g2, 3, none⟩ = some (.int .u64 a0_3) := (blk_cell x2 3).trans rfl; have pc4 : World.cell? w4 ⟨g2, 4, none⟩ = some (.int .i64 a0_4) := (blk_cell x2 4).trans rfl; have pc5 : World.cell? w4 ⟨g2, 5, none⟩ = some (.int .i64 a0_5) := (blk_cell x2 5).trans rfl) | ((with_reducible refine gate_dst (N := 11) rfl ?_); refine box_event ?hg (N := 11) ?hd (cs := #[.int .u64 a0_0, .int .u64 a0_1, .int .u64 a0_2, .int .u64 a0_3, .int .i64 a0_4, .int .i64 a0_5]) (t := 66) ?hr ?_; (case hd => rfl); (case hg => rfl); (case hr => first | (go_simp; done) | (go_simp; rfl)); intro g11 hg_ w11 x11 hb11; have Eg11 := Aside0.mk hg_; clear hg_; have g4lt : g4 < g11 := (by rw [Eg11.out]; exact blk_lt x4); replace x2 := blk_below x2 hb11; replace x3 := blk_below x3 hb11; replace x4 := blk_below x4 hb11; replace hb11 := below_step hb4 hb11; have qc0 : World.cell? w11 ⟨g3, 0, none⟩ = some (.int .u64 a1_0) := (blk_cell x3 0).trans rfl; have qc1 : World.cell? w11 ⟨g3, 1, none⟩ = some (.int .u64 a1_1) := (blk_cell x3 1).trans rfl; have qc2 : World.cell? w11 ⟨g3, 2, none⟩ = some (.int .u64 a1_2) := (blk_cell x3 2).trans rfl; have qc3 : World.cell? w11 ⟨g3, 3, none⟩ = some (.int .u64 a1_3) := (blk_cell x3 3).trans rfl; have qc4 : World.cell? w11 ⟨g3, 4, none⟩ = some (.int .i64 a1_4) := (blk_cell x3 4).trans rfl; have qc5 : World.cell? w11 ⟨g3, 5, none⟩ = some (.int .i64 a1_5) := (blk_cell x3 5).trans rfl))
 have HI : Aside0 (IsS66 w w11 g11 a0_0 a0_1 a0_2 a0_3 a0_4 a0_5) := ⟨⟨x11, by rw [Eg11.out]; exact hb4.size⟩⟩
 have HN : Aside0 (g2 ≠ g11 ∧ g3 ≠ g11 ∧ g4 ≠ g11 ∧ g2 ≠ g4 ∧ g3 ≠ g4 ∧ w.heap.size ≤ g4) := ⟨by omega, by omega, by omega, by omega, by omega, by rw [Eg4.out]; exact hb3.size⟩
 have BK2 := Aside0.mk x2
 have BK3 := Aside0.mk x3
 have BK4 := Aside0.mk x4
 have HB := Aside0.mk hb11
 clear hb2 hb3 hb4 hb11 x2 x3 x4 x11 g2lt g3lt g4lt Eg2 Eg3 Eg4 Eg11 pc0 pc1 pc2 pc3 pc4 pc5
 with_reducible refine (num_known_unsigned.calls g11 _ _ _ _ _ _ _ _ _ _ _ _ _ _ w _ HI.out HB.out rfl).mono ?_
 rintro e w12 ⟨rfl, hI, hB, hK⟩
 have y2 := (hK.2 g2 (blk_lt BK2.out) HN.out.1 (by simp)).trans BK2.out
 have y3 := (hK.2 g3 (blk_lt BK3.out) HN.out.2.1 (by simp)).trans BK3.out
 have y4 := (hK.2 g4 (blk_lt BK4.out) HN.out.2.2.1 (by simp)).trans BK4.out
 clear BK2 BK3 BK4 HI HB hK qc0 qc1 qc2 qc3 qc4 qc5
 have BK2 := Aside0.mk y2
 have BK3 := Aside0.mk y3
 have BK4 := Aside0.mk y4
 have HI := Aside0.mk hI
 have HB := Aside0.mk hB
 clear y2 y3 y4 hI hB
 have qc0 : World.cell? w12 ⟨g3, 0, none⟩ = some (.int .u64 a1_0) := (blk_cell BK3.out 0).trans rfl
 have qc1 : World.cell? w12 ⟨g3, 1, none⟩ = some (.int .u64 a1_1) := (blk_cell BK3.out 1).trans rfl
 have qc2 : World.cell? w12 ⟨g3, 2, none⟩ = some (.int .u64 a1_2) := (blk_cell BK3.out 2).trans rfl
 have qc3 : World.cell? w12 ⟨g3, 3, none⟩ = some (.int .u64 a1_3) := (blk_cell BK3.out 3).trans rfl
 have qc4 : World.cell? w12 ⟨g3, 4, none⟩ = some (.int .i64 a1_4) := (blk_cell BK3.out 4).trans rfl
 have qc5 : World.cell? w12 ⟨g3, 5, none⟩ = some (.int .i64 a1_5) := (blk_cell BK3.out 5).trans rfl
 go_wp2_with fail
 with_reducible refine (num_known_signed.calls g11 _ _ _ _ _ _ _ _ _ _ _ _ _ _ w _ HI.out HB.out rfl).mono ?_
 rintro e w13 ⟨rfl, hI, hB, hK⟩
 have y2 := (hK.2 g2 (blk_lt BK2.out) HN.out.1 (by simp)).trans BK2.out
 have y3 := (hK.2 g3 (blk_lt BK3.out) HN.out.2.1 (by simp)).trans BK3.out
 have y4 := (hK.2 g4 (blk_lt BK4.out) HN.out.2.2.1 (by simp)).trans BK4.out
 clear BK2 BK3 BK4 HI HB hK qc0 qc1 qc2 qc3 qc4 qc5
 have BK2 := Aside0.mk y2
 have BK3 := Aside0.mk y3
 have BK4 := Aside0.mk y4
 have HI := Aside0.mk hI
 have HB := Aside0.mk hB
 clear y2 y3 y4 hI hB
 have pc0 : World.cell? w13 ⟨g2, 0, none⟩ = some (.int .u64 a0_0) := (blk_cell BK2.out 0).trans rfl
 have pc1 : World.cell? w13 ⟨g2, 1, none⟩ = some (.int .u64 a0_1) := (blk_cell BK2.out 1).trans rfl
 have qc0 : World.cell? w13 ⟨g3, 0, none⟩ = some (.int .u64 a1_0) := (blk_cell BK3.out 0).trans rfl
 have qc1 : World.cell? w13 ⟨g3, 1, none⟩ = some (.int .u64 a1_1) := (blk_cell BK3.out 1).trans rfl
 go_wp2_with fail
 with_reducible refine (tnum_Meet.calls _ _ _ _ _ _ _ _ HM.out).mono ?_
 rintro e w14 ⟨rfl, hb⟩
 have y4 := blk_below BK4.out hb
 have hI := HI.out.below hb
 have hI' : IsS66 w w14 g11 a0_0 a0_1 (mx a0_2 a1_2) (mn a0_3 a1_3) (mx a0_4 a1_4) (mn a0_5 a1_5) := hI
 have hB := below_step HB.out hb
 clear BK2 BK3 BK4 HI HB hb hI pc0 pc1 qc0 qc1 HM
 have hlt4 := blk_lt y4
 have hlt11 := blk_lt hI'.1
 have HG4 : Aside0 (w.heap.size ≤ g4) := ⟨HN.out.2.2.2.2.2⟩
 have n411 := HN.out.2.2.1
 have n114 := n411.symm
 have HI := Aside0.mk hI'
 have HB := Aside0.mk hB
 have BK4 := Aside0.mk y4
 clear hI' hB y4 HN
 cases u3 with
 | false =>
  have H2 : num_none = some (r1, r2, r3, r4, r5, r6, r7) := (if_neg (by decide)).symm.trans H.out
  unfold num_none at H2
  obtain ⟨⟨z1, z2, z3, z4, z5, z6⟩, hA, H2⟩ := Option.bind_eq_some_iff.mp H2
  simp only [Option.some.injEq, Prod.mk.injEq] at H2
  obtain ⟨rfl, rfl, rfl, rfl, rfl, rfl, rfl⟩ := H2
  have HA := Aside0.mk hA
  clear hA H
  go_wp2_with ((with_reducible refine gate_dst (N := 7) rfl ?_); refine box_event ?hg (N := 7) ?hd (cs := #[.int .u64 0, .int .u64 0]) (t := 34) ?hr ?_; (case hd => rfl); (case hg => rfl); (case hr => first | (go_simp; done) | (go_simp; rfl)); intro g7 hg_ w15 x7 hb7; have E7 : Aside0 (w.heap.size ≤ g7 ∧ g4 < g7 ∧ g11 < g7) := ⟨by rw [hg_]; exact ⟨HB.out.size, hlt4, hlt11⟩⟩; clear hg_; have y4 := blk_below BK4.out hb7; have hI := HI.out.below hb7; have hB := below_step HB.out hb7; have n74 : g7 ≠ g4 := (by have := E7.out; omega); have n47 := n74.symm; have n711 : g7 ≠ g11 := (by have := E7.out; omega); have n117 := n711.symm; have xc0 : World.cell? w15 ⟨g7, 0, none⟩ = some (.int .u64 0) := (blk_cell x7 0).trans rfl; have xf0 := blk_frozen x7 0; have xc1 : World.cell? w15 ⟨g7, 1, none⟩ = some (.int .u64 0) := (blk_cell x7 1).trans rfl; have xf1 := blk_frozen x7 1; obtain ⟨c0, c1, c2, c3, c4, c5⟩ := num_cells hI; have kf0 := blk_frozen hI.1 0; have kf1 := blk_frozen hI.1 1)
  with_reducible refine (num_All.calls _ _ _ _ _ _ _ HA.out).mono ?_
  rintro e w16 ⟨rfl, hb16⟩
  have y4 := blk_below (o := .cells #[.int .u64 0, .int .u64 0, .int .u64 0, .int .u64 0, .int .i64 0, .int .i64 0] 36 (0, 0)) (by repeat (first | exact y4 | refine blk_far ?_ n47 _)) hb16
  have hB := below_step (by repeat (first | exact hB | refine below_set ?_ E7.out.1)) hb16
  have zc0 : World.cell? w16 ⟨g4, 0, none⟩ = some (.int .u64 0) := (blk_cell y4 0).trans rfl
  have zf0 := blk_frozen y4 0
  have zc1 : World.cell? w16 ⟨g4, 1, none⟩ = some (.int .u64 0) := (blk_cell y4 1).trans rfl
  have zf1 := blk_frozen y4 1
  have zc2 : World.cell? w16 ⟨g4, 2, none⟩ = some (.int .u64 0) := (blk_cell y4 2).trans rfl
  have zf2 := blk_frozen y4 2
  have zc3 : World.cell? w16 ⟨g4, 3, none⟩ = some (.int .u64 0) := (blk_cell y4 3).trans rfl
  have zf3 := blk_frozen y4 3
  have zc4 : World.cell? w16 ⟨g4, 4, none⟩ = some (.int .i64 0) := (blk_cell y4 4).trans rfl
  have zf4 := blk_frozen y4 4
  have zc5 : World.cell? w16 ⟨g4, 5, none⟩ = some (.int .i64 0) := (blk_cell y4 5).trans rfl
  have zf5 := blk_frozen y4 5
  go_wp2
  refine bodyPost_ret (results_ct rfl _ _ g4 36 #[.int .u64 z1, .int .u64 z2, .int .u64 z3, .int .u64 z4, .int .i64 z5, .int .i64 z6] (0, 0) _ rfl (by (with_reducible repeat (first | refine blk_drewN ?_ _ | refine blk_drew ?_ | refine blk_alloc ?_ _)); refine blk_put (cs := #[.int .u64 z1, .int .u64 z2, .int .u64 z3, .int .u64 z4, .int .i64 z5, .int .i64 0]) ?_ 5 _ rfl; (with_reducible repeat (first | refine blk_drewN ?_ _ | refine blk_drew ?_ | refine blk_alloc ?_ _)); refine blk_put (cs := #[.int .u64 z1, .int .u64 z2, .int .u64 z3, .int .u64 z4, .int .i64 0, .int .i64 0]) ?_ 4 _ rfl; (with_reducible repeat (first | refine blk_drewN ?_ _ | refine blk_drew ?_ | refine blk_alloc ?_ _)); refine blk_put (cs := #[.int .u64 z1, .int .u64 z2, .int .u64 z3, .int .u64 0, .int .i64 0, .int .i64 0]) ?_ 3 _ rfl; (with_reducible repeat (first | refine blk_drewN ?_ _ | refine blk_drew ?_ | refine blk_alloc ?_ _)); refine blk_put (cs := #[.int .u64 z1, .int .u64 z2, .int .u64 0, .int .u64 0, .int .i64 0, .int .i64 0]) ?_ 2 _ rfl; (with_reducible repeat (first | refine blk_drewN ?_ _ | refine blk_drew ?_ | refine blk_alloc ?_ _)); refine blk_put (cs := #[.int .u64 z1, .int .u64 0, .int .u64 0, .int .u64 0, .int .i64 0, .int .i64 0]) ?_ 1 _ rfl; (with_reducible repeat (first | refine blk_drewN ?_ _ | refine blk_drew ?_ | refine blk_alloc ?_ _)); refine blk_put (cs := #[.int .u64 0, .int .u64 0, .int .u64 0, .int .u64 0, .int .i64 0, .int .i64 0]) ?_ 0 _ rfl; (with_reducible repeat (first | refine blk_drewN ?_ _ | refine blk_drew ?_ | refine blk_alloc ?_ _)); exact y4) Try.underlying36 rfl (by kernel_rfl)) rfl ?_
  exact ⟨rfl, by repeat (first | exact hB | refine below_set ?_ HG4.out)⟩
 | true =>
  have H2 : num_Refine.f u1 u2 (mx a0_2 a1_2) (mn a0_3 a1_3) (mx a0_4 a1_4) (mn a0_5 a1_5) = some (r1, r2, r3, r4, r5, r6, r7) := (if_pos rfl).symm.trans H.out
  have HA := Aside0.mk H2
  clear H2 H
  go_wp2_with ((with_reducible refine gate_dst (N := 7) rfl ?_); refine box_event ?hg (N := 7) ?hd (cs := #[.int .u64 0, .int .u64 0]) (t := 34) ?hr ?_; (case hd => rfl); (case hg => rfl); (case hr => first | (go_simp; done) | (go_simp; rfl)); intro g7 hg_ w15 x7 hb7; have E7 : Aside0 (w.heap.size ≤ g7 ∧ g4 < g7 ∧ g11 < g7) := ⟨by rw [hg_]; exact ⟨HB.out.size, hlt4, hlt11⟩⟩; clear hg_; have y4 := blk_below BK4.out hb7; have hI := HI.out.below hb7; have hB := below_step HB.out hb7; have n74 : g7 ≠ g4 := (by have := E7.out; omega); have n47 := n74.symm; have n711 : g7 ≠ g11 := (by have := E7.out; omega); have n117 := n711.symm; have xc0 : World.cell? w15 ⟨g7, 0, none⟩ = some (.int .u64 0) := (blk_cell x7 0).trans rfl; have xf0 := blk_frozen x7 0; have xc1 : World.cell? w15 ⟨g7, 1, none⟩ = some (.int .u64 0) := (blk_cell x7 1).trans rfl; have xf1 := blk_frozen x7 1; obtain ⟨c0, c1, c2, c3, c4, c5⟩ := num_cells hI; have kf0 := blk_frozen hI.1 0; have kf1 := blk_frozen hI.1 1)
  with_reducible refine (num_Refine.calls _ _ _ _ _ _ _ _ _ _ _ _ _ _ HA.out).mono ?_
  rintro e w16 ⟨rfl, hb16⟩
  have y4 := blk_below (o := .cells #[.int .u64 0, .int .u64 0, .int .u64 0, .int .u64 0, .int .i64 0, .int .i64 0] 36 (0, 0)) (by repeat (first | exact y4 | refine blk_far ?_ n47 _ | refine blk_far ?_ n411 _)) hb16
  have hB := below_step (by repeat (first | exact hB | refine below_set ?_ E7.out.1 | refine below_set ?_ HI.out.2)) hb16
  have zc0 : World.cell? w16 ⟨g4, 0, none⟩ = some (.int .u64 0) := (blk_cell y4 0).trans rfl
  have zf0 := blk_frozen y4 0
  have zc1 : World.cell? w16 ⟨g4, 1, none⟩ = some (.int .u64 0) := (blk_cell y4 1).trans rfl
  have zf1 := blk_frozen y4 1
  have zc2 : World.cell? w16 ⟨g4, 2, none⟩ = some (.int .u64 0) := (blk_cell y4 2).trans rfl
  have zf2 := blk_frozen y4 2
  have zc3 : World.cell? w16 ⟨g4, 3, none⟩ = some (.int .u64 0) := (blk_cell y4 3).trans rfl
  have zf3 := blk_frozen y4 3
  have zc4 : World.cell? w16 ⟨g4, 4, none⟩ = some (.int .i64 0) := (blk_cell y4 4).trans rfl
  have zf4 := blk_frozen y4 4
  have zc5 : World.cell? w16 ⟨g4, 5, none⟩ = some (.int .i64 0) := (blk_cell y4 5).trans rfl
  have zf5 := blk_frozen y4 5
  go_wp2
  refine bodyPost_ret (results_ct rfl _ _ g4 36 #[.int .u64 r1, .int .u64 r2, .int .u64 r3, .int .u64 r4, .int .i64 r5, .int .i64 r6] (0, 0) _ rfl (by (with_reducible repeat (first | refine blk_drewN ?_ _ | refine blk_drew ?_ | refine blk_alloc ?_ _)); refine blk_put (cs := #[.int .u64 r1, .int .u64 r2, .int .u64 r3, .int .u64 r4, .int .i64 r5, .int .i64 0]) ?_ 5 _ rfl; (with_reducible repeat (first | refine blk_drewN ?_ _ | refine blk_drew ?_ | refine blk_alloc ?_ _)); refine blk_put (cs := #[.int .u64 r1, .int .u64 r2, .int .u64 r3, .int .u64 r4, .int .i64 0, .int .i64 0]) ?_ 4 _ rfl; (with_reducible repeat (first | refine blk_drewN ?_ _ | refine blk_drew ?_ | refine blk_alloc ?_ _)); refine blk_put (cs := #[.int .u64 r1, .int .u64 r2, .int .u64 r3, .int .u64 0, .int .i64 0, .int .i64 0]) ?_ 3 _ rfl; (with_reducible repeat (first | refine blk_drewN ?_ _ | refine blk_drew ?_ | refine blk_alloc ?_ _)); refine blk_put (cs := #[.int .u64 r1, .int .u64 r2, .int .u64 0, .int .u64 0, .int .i64 0, .int .i64 0]) ?_ 2 _ rfl; (with_reducible repeat (first | refine blk_drewN ?_ _ | refine blk_drew ?_ | refine blk_alloc ?_ _)); refine blk_put (cs := #[.int .u64 r1, .int .u64 0, .int .u64 0, .int .u64 0, .int .i64 0, .int .i64 0]) ?_ 1 _ rfl; (with_reducible repeat (first | refine blk_drewN ?_ _ | refine blk_drew ?_ | refine blk_alloc ?_ _)); refine blk_put (cs := #[.int .u64 0, .int .u64 0, .int .u64 0, .int .u64 0, .int .i64 0, .int .i64 0]) ?_ 0 _ rfl; (with_reducible repeat (first | refine blk_drewN ?_ _ | refine blk_drew ?_ | refine blk_alloc ?_ _)); exact y4) Try.underlying36 rfl (by kernel_rfl)) rfl ?_
  exact ⟨rfl, by repeat (first | exact hB | refine below_set ?_ HG4.out)⟩


/-! ### num_IsConst: function 25 -/
def num_IsConst.f (a0_0 : Int) (a0_1 : Int) (a0_2 : Int) (a0_3 : Int) (a0_4 : Int) (a0_5 : Int) : Option (Int × Bool) := if a0_1 = 0 then (some (a0_0, true)) else (some (0, false))
set_option maxHeartbeats 8000000 in
set_option maxRecDepth 100000 in
theorem num_IsConst.calls (a0_0 : Int) (a0_1 : Int) (a0_2 : Int) (a0_3 : Int) (a0_4 : Int) (a0_5 : Int) (r1 : Int) (r2 : Bool) (w : World) (h : num_IsConst.f a0_0 a0_1 a0_2 a0_3 a0_4 a0_5 = some (r1, r2)) :
  Calls Try.prog 25 #[.agg #[.int .u64 a0_0, .int .u64 a0_1, .int .u64 a0_2, .int .u64 a0_3, .int .i64 a0_4, .int .i64 a0_5]] w fun e w' => e = .returned (.tuple #[.int .u64 r1, .bool r2]) ∧ Below w.heap.size w w' := by
 have hu36 := Try.underlying36
 have HB := Aside0.mk (Below.refl w.heap.size w)
 have H : (if a0_1 = 0 then (some (a0_0, true)) else (some (0, false))) = some (r1, r2) := h
 clear h
 by_cases c2 : a0_1 = 0
 ·rw [if_pos c2] at H
  have c2b0 : (a0_1 == 0) = true := beq_iff_eq.mpr c2
  have c2b1 : (a0_1 != 0) = false := bne_eq_false_iff_eq.mpr c2
  clear c2
  simp only [Option.some.injEq, Prod.mk.injEq] at H
  obtain ⟨rfl, rfl⟩ := H
  go_enter Try.func25, Try.ntmps25
  go_wp2_with (first | ((with_reducible refine gate_dst (N := 1) rfl ?_); refine box_event ?hg (N := 1) ?hd (cs := #[.int .u64 a0_0, .int .u64 a0_1, .int .u64 a0_2, .int .u64 a0_3, .int .i64 a0_4, .int .i64 a0_5]) (t := 36) ?hr ?_; (case hd => rfl); (case hg => rfl); (case hr => first | (go_simp; done) | (go_simp; rfl)); intro gb146 hg w3 hbox hb; have n0_ := Aside0.mk (below_step (by repeat (first | (with_reducible first | exact HB.out | apply below_alloc | apply pw_below_drewN | apply below_drew1) | exact HB.out)) hb); have n1_ := Aside0.mk (hbox); have n2_ := Aside0.mk ((by rw [hg]; exact (below_size (by repeat (first | (with_reducible first | exact HB.out | apply below_alloc | apply pw_below_drewN | apply below_drew1) | exact HB.out))) : w.heap.size ≤ gb146)); have n3_ := Aside0.mk ((by rw [hg]; exact (below_size (by repeat (first | (with_reducible first | exact HB.out | apply below_alloc | apply pw_below_drewN | apply below_drew1) | exact HB.out))) : w.heap.size ≤ gb146)); clear HB; have HB := n0_; have BK146 := n1_; have GW146 := n2_; have GE146 := n3_; clear n0_ n1_ n2_ n3_; clear hb hbox hg; have hcz4_0 : w3.cell? ⟨gb146, 0, none⟩ = some (.int .u64 a0_0) := (blk_cell BK146.out 0).trans rfl; have hcz4_1 : w3.cell? ⟨gb146, 1, none⟩ = some (.int .u64 a0_1) := (blk_cell BK146.out 1).trans rfl; have hcz4_2 : w3.cell? ⟨gb146, 2, none⟩ = some (.int .u64 a0_2) := (blk_cell BK146.out 2).trans rfl; have hcz4_3 : w3.cell? ⟨gb146, 3, none⟩ = some (.int .u64 a0_3) := (blk_cell BK146.out 3).trans rfl; have hcz4_4 : w3.cell? ⟨gb146, 4, none⟩ = some (.int .i64 a0_4) := (blk_cell BK146.out 4).trans rfl; have hcz4_5 : w3.cell? ⟨gb146, 5, none⟩ = some (.int .i64 a0_5) := (blk_cell BK146.out 5).trans rfl; have hfz4_0 := blk_frozen BK146.out 0; have hfz4_1 := blk_frozen BK146.out 1; have hfz4_2 := blk_frozen BK146.out 2; have hfz4_3 := blk_frozen BK146.out 3; have hfz4_4 := blk_frozen BK146.out 4; have hfz4_5 := blk_frozen BK146.out 5))
  go_ret2
  exact ⟨by first | rfl | (simp [errW_none, errW_some] <;> rfl) | (simp [*, errW_none, errW_some] <;> rfl), by repeat (first | (with_reducible first | exact HB.out | apply below_alloc | apply pw_below_drewN | apply below_drew1 | refine below_set ?_ GE146.out) | exact HB.out)⟩
 ·rw [if_neg c2] at H
  have c2b0 : (a0_1 == 0) = false := beq_eq_false_iff_ne.mpr c2
  have c2b1 : (a0_1 != 0) = true := bne_iff_ne.mpr c2
  simp only [Option.some.injEq, Prod.mk.injEq] at H
  obtain ⟨rfl, rfl⟩ := H
  go_enter Try.func25, Try.ntmps25
  go_wp2_with (first | ((with_reducible refine gate_dst (N := 1) rfl ?_); refine box_event ?hg (N := 1) ?hd (cs := #[.int .u64 a0_0, .int .u64 a0_1, .int .u64 a0_2, .int .u64 a0_3, .int .i64 a0_4, .int .i64 a0_5]) (t := 36) ?hr ?_; (case hd => rfl); (case hg => rfl); (case hr => first | (go_simp; done) | (go_simp; rfl)); intro gb146 hg w5 hbox hb; have n0_ := Aside0.mk (below_step (by repeat (first | (with_reducible first | exact HB.out | apply below_alloc | apply pw_below_drewN | apply below_drew1) | exact HB.out)) hb); have n1_ := Aside0.mk (hbox); have n2_ := Aside0.mk ((by rw [hg]; exact (below_size (by repeat (first | (with_reducible first | exact HB.out | apply below_alloc | apply pw_below_drewN | apply below_drew1) | exact HB.out))) : w.heap.size ≤ gb146)); have n3_ := Aside0.mk ((by rw [hg]; exact (below_size (by repeat (first | (with_reducible first | exact HB.out | apply below_alloc | apply pw_below_drewN | apply below_drew1) | exact HB.out))) : w.heap.size ≤ gb146)); clear HB; have HB := n0_; have BK146 := n1_; have GW146 := n2_; have GE146 := n3_; clear n0_ n1_ n2_ n3_; clear hb hbox hg; have hcz6_0 : w5.cell? ⟨gb146, 0, none⟩ = some (.int .u64 a0_0) := (blk_cell BK146.out 0).trans rfl; have hcz6_1 : w5.cell? ⟨gb146, 1, none⟩ = some (.int .u64 a0_1) := (blk_cell BK146.out 1).trans rfl; have hcz6_2 : w5.cell? ⟨gb146, 2, none⟩ = some (.int .u64 a0_2) := (blk_cell BK146.out 2).trans rfl; have hcz6_3 : w5.cell? ⟨gb146, 3, none⟩ = some (.int .u64 a0_3) := (blk_cell BK146.out 3).trans rfl; have hcz6_4 : w5.cell? ⟨gb146, 4, none⟩ = some (.int .i64 a0_4) := (blk_cell BK146.out 4).trans rfl; have hcz6_5 : w5.cell? ⟨gb146, 5, none⟩ = some (.int .i64 a0_5) := (blk_cell BK146.out 5).trans rfl; have hfz6_0 := blk_frozen BK146.out 0; have hfz6_1 := blk_frozen BK146.out 1; have hfz6_2 := blk_frozen BK146.out 2; have hfz6_3 := blk_frozen BK146.out 3; have hfz6_4 := blk_frozen BK146.out 4; have hfz6_5 := blk_frozen BK146.out 5))
  go_ret2
  exact ⟨by first | rfl | (simp [errW_none, errW_some] <;> rfl) | (simp [*, errW_none, errW_some] <;> rfl), by repeat (first | (with_reducible first | exact HB.out | apply below_alloc | apply pw_below_drewN | apply below_drew1 | refine below_set ?_ GE146.out) | exact HB.out)⟩

/-! ### bits_OnesCount64: function 105 -/
def bits_OnesCount64.f (a0 : Int) : Option (Int) := some (Go.bits .and .i64 (wrap64 (IntKind.u64.wrap ((IntKind.u64.wrap ((IntKind.u64.wrap ((Go.bits .and .u64 (IntKind.u64.wrap (((IntKind.u64.wrap ((Go.bits .and .u64 ((IntKind.u64.wrap ((Go.bits .and .u64 (a0 / 2) 6148914691236517205) + (Go.bits .and .u64 a0 6148914691236517205))) / 4) 3689348814741910323) + (Go.bits .and .u64 (IntKind.u64.wrap ((Go.bits .and .u64 (a0 / 2) 6148914691236517205) + (Go.bits .and .u64 a0 6148914691236517205))) 3689348814741910323))) / 16) + (IntKind.u64.wrap ((Go.bits .and .u64 ((IntKind.u64.wrap ((Go.bits .and .u64 (a0 / 2) 6148914691236517205) + (Go.bits .and .u64 a0 6148914691236517205))) / 4) 3689348814741910323) + (Go.bits .and .u64 (IntKind.u64.wrap ((Go.bits .and .u64 (a0 / 2) 6148914691236517205) + (Go.bits .and .u64 a0 6148914691236517205))) 3689348814741910323))))) 1085102592571150095) + ((Go.bits .and .u64 (IntKind.u64.wrap (((IntKind.u64.wrap ((Go.bits .and .u64 ((IntKind.u64.wrap ((Go.bits .and .u64 (a0 / 2) 6148914691236517205) + (Go.bits .and .u64 a0 6148914691236517205))) / 4) 3689348814741910323) + (Go.bits .and .u64 (IntKind.u64.wrap ((Go.bits .and .u64 (a0 / 2) 6148914691236517205) + (Go.bits .and .u64 a0 6148914691236517205))) 3689348814741910323))) / 16) + (IntKind.u64.wrap ((Go.bits .and .u64 ((IntKind.u64.wrap ((Go.bits .and .u64 (a0 / 2) 6148914691236517205) + (Go.bits .and .u64 a0 6148914691236517205))) / 4) 3689348814741910323) + (Go.bits .and .u64 (IntKind.u64.wrap ((Go.bits .and .u64 (a0 / 2) 6148914691236517205) + (Go.bits .and .u64 a0 6148914691236517205))) 3689348814741910323))))) 1085102592571150095) / 256))) + ((IntKind.u64.wrap ((Go.bits .and .u64 (IntKind.u64.wrap (((IntKind.u64.wrap ((Go.bits .and .u64 ((IntKind.u64.wrap ((Go.bits .and .u64 (a0 / 2) 6148914691236517205) + (Go.bits .and .u64 a0 6148914691236517205))) / 4) 3689348814741910323) + (Go.bits .and .u64 (IntKind.u64.wrap ((Go.bits .and .u64 (a0 / 2) 6148914691236517205) + (Go.bits .and .u64 a0 6148914691236517205))) 3689348814741910323))) / 16) + (IntKind.u64.wrap ((Go.bits .and .u64 ((IntKind.u64.wrap ((Go.bits .and .u64 (a0 / 2) 6148914691236517205) + (Go.bits .and .u64 a0 6148914691236517205))) / 4) 3689348814741910323) + (Go.bits .and .u64 (IntKind.u64.wrap ((Go.bits .and .u64 (a0 / 2) 6148914691236517205) + (Go.bits .and .u64 a0 6148914691236517205))) 3689348814741910323))))) 1085102592571150095) + ((Go.bits .and .u64 (IntKind.u64.wrap (((IntKind.u64.wrap ((Go.bits .and .u64 ((IntKind.u64.wrap ((Go.bits .and .u64 (a0 / 2) 6148914691236517205) + (Go.bits .and .u64 a0 6148914691236517205))) / 4) 3689348814741910323) + (Go.bits .and .u64 (IntKind.u64.wrap ((Go.bits .and .u64 (a0 / 2) 6148914691236517205) + (Go.bits .and .u64 a0 6148914691236517205))) 3689348814741910323))) / 16) + (IntKind.u64.wrap ((Go.bits .and .u64 ((IntKind.u64.wrap ((Go.bits .and .u64 (a0 / 2) 6148914691236517205) + (Go.bits .and .u64 a0 6148914691236517205))) / 4) 3689348814741910323) + (Go.bits .and .u64 (IntKind.u64.wrap ((Go.bits .and .u64 (a0 / 2) 6148914691236517205) + (Go.bits .and .u64 a0 6148914691236517205))) 3689348814741910323))))) 1085102592571150095) / 256))) / 65536))) + ((IntKind.u64.wrap ((IntKind.u64.wrap ((Go.bits .and .u64 (IntKind.u64.wrap (((IntKind.u64.wrap ((Go.bits .and .u64 ((IntKind.u64.wrap ((Go.bits .and .u64 (a0 / 2) 6148914691236517205) + (Go.bits .and .u64 a0 6148914691236517205))) / 4) 3689348814741910323) + (Go.bits .and .u64 (IntKind.u64.wrap ((Go.bits .and .u64 (a0 / 2) 6148914691236517205) + (Go.bits .and .u64 a0 6148914691236517205))) 3689348814741910323))) / 16) + (IntKind.u64.wrap ((Go.bits .and .u64 ((IntKind.u64.wrap ((Go.bits .and .u64 (a0 / 2) 6148914691236517205) + (Go.bits .and .u64 a0 6148914691236517205))) / 4) 3689348814741910323) + (Go.bits .and .u64 (IntKind.u64.wrap ((Go.bits .and .u64 (a0 / 2) 6148914691236517205) + (Go.bits .and .u64 a0 6148914691236517205))) 3689348814741910323))))) 1085102592571150095) + ((Go.bits .and .u64 (IntKind.u64.wrap (((IntKind.u64.wrap ((Go.bits .and .u64 ((IntKind.u64.wrap ((Go.bits .and .u64 (a0 / 2) 6148914691236517205) + (Go.bits .and .u64 a0 6148914691236517205))) / 4) 3689348814741910323) + (Go.bits .and .u64 (IntKind.u64.wrap ((Go.bits .and .u64 (a0 / 2) 6148914691236517205) + (Go.bits .and .u64 a0 6148914691236517205))) 3689348814741910323))) / 16) + (IntKind.u64.wrap ((Go.bits .and .u64 ((IntKind.u64.wrap ((Go.bits .and .u64 (a0 / 2) 6148914691236517205) + (Go.bits .and .u64 a0 6148914691236517205))) / 4) 3689348814741910323) + (Go.bits .and .u64 (IntKind.u64.wrap ((Go.bits .and .u64 (a0 / 2) 6148914691236517205) + (Go.bits .and .u64 a0 6148914691236517205))) 3689348814741910323))))) 1085102592571150095) / 256))) + ((IntKind.u64.wrap ((Go.bits .and .u64 (IntKind.u64.wrap (((IntKind.u64.wrap ((Go.bits .and .u64 ((IntKind.u64.wrap ((Go.bits .and .u64 (a0 / 2) 6148914691236517205) + (Go.bits .and .u64 a0 6148914691236517205))) / 4) 3689348814741910323) + (Go.bits .and .u64 (IntKind.u64.wrap ((Go.bits .and .u64 (a0 / 2) 6148914691236517205) + (Go.bits .and .u64 a0 6148914691236517205))) 3689348814741910323))) / 16) + (IntKind.u64.wrap ((Go.bits .and .u64 ((IntKind.u64.wrap ((Go.bits .and .u64 (a0 / 2) 6148914691236517205) + (Go.bits .and .u64 a0 6148914691236517205))) / 4) 3689348814741910323) + (Go.bits .and .u64 (IntKind.u64.wrap ((Go.bits .and .u64 (a0 / 2) 6148914691236517205) + (Go.bits .and .u64 a0 6148914691236517205))) 3689348814741910323))))) 1085102592571150095) + ((Go.bits .and .u64 (IntKind.u64.wrap (((IntKind.u64.wrap ((Go.bits .and .u64 ((IntKind.u64.wrap ((Go.bits .and .u64 (a0 / 2) 6148914691236517205) + (Go.bits .and .u64 a0 6148914691236517205))) / 4) 3689348814741910323) + (Go.bits .and .u64 (IntKind.u64.wrap ((Go.bits .and .u64 (a0 / 2) 6148914691236517205) + (Go.bits .and .u64 a0 6148914691236517205))) 3689348814741910323))) / 16) + (IntKind.u64.wrap ((Go.bits .and .u64 ((IntKind.u64.wrap ((Go.bits .and .u64 (a0 / 2) 6148914691236517205) + (Go.bits .and .u64 a0 6148914691236517205))) / 4) 3689348814741910323) + (Go.bits .and .u64 (IntKind.u64.wrap ((Go.bits .and .u64 (a0 / 2) 6148914691236517205) + (Go.bits .and .u64 a0 6148914691236517205))) 3689348814741910323))))) 1085102592571150095) / 256))) / 65536))) / 4294967296)))) 127)
set_option maxHeartbeats 8000000 in
set_option maxRecDepth 100000 in
theorem bits_OnesCount64.calls (a0 : Int) (r : Int) (w : World) (h : bits_OnesCount64.f a0 = some r) :
  Calls Try.prog 105 #[.int .u64 a0] w fun e w' => e = .returned (.int .i64 r) ∧ Drawn0 w w' := by
 have H : (some (Go.bits .and .i64 (wrap64 (IntKind.u64.wrap ((IntKind.u64.wrap ((IntKind.u64.wrap ((Go.bits .and .u64 (IntKind.u64.wrap (((IntKind.u64.wrap ((Go.bits .and .u64 ((IntKind.u64.wrap ((Go.bits .and .u64 (a0 / 2) 6148914691236517205) + (Go.bits .and .u64 a0 6148914691236517205))) / 4) 3689348814741910323) + (Go.bits .and .u64 (IntKind.u64.wrap ((Go.bits .and .u64 (a0 / 2) 6148914691236517205) + (Go.bits .and .u64 a0 6148914691236517205))) 3689348814741910323))) / 16) + (IntKind.u64.wrap ((Go.bits .and .u64 ((IntKind.u64.wrap ((Go.bits .and .u64 (a0 / 2) 6148914691236517205) + (Go.bits .and .u64 a0 6148914691236517205))) / 4) 3689348814741910323) + (Go.bits .and .u64 (IntKind.u64.wrap ((Go.bits .and .u64 (a0 / 2) 6148914691236517205) + (Go.bits .and .u64 a0 6148914691236517205))) 3689348814741910323))))) 1085102592571150095) + ((Go.bits .and .u64 (IntKind.u64.wrap (((IntKind.u64.wrap ((Go.bits .and .u64 ((IntKind.u64.wrap ((Go.bits .and .u64 (a0 / 2) 6148914691236517205) + (Go.bits .and .u64 a0 6148914691236517205))) / 4) 3689348814741910323) + (Go.bits .and .u64 (IntKind.u64.wrap ((Go.bits .and .u64 (a0 / 2) 6148914691236517205) + (Go.bits .and .u64 a0 6148914691236517205))) 3689348814741910323))) / 16) + (IntKind.u64.wrap ((Go.bits .and .u64 ((IntKind.u64.wrap ((Go.bits .and .u64 (a0 / 2) 6148914691236517205) + (Go.bits .and .u64 a0 6148914691236517205))) / 4) 3689348814741910323) + (Go.bits .and .u64 (IntKind.u64.wrap ((Go.bits .and .u64 (a0 / 2) 6148914691236517205) + (Go.bits .and .u64 a0 6148914691236517205))) 3689348814741910323))))) 1085102592571150095) / 256))) + ((IntKind.u64.wrap ((Go.bits .and .u64 (IntKind.u64.wrap (((IntKind.u64.wrap ((Go.bits .and .u64 ((IntKind.u64.wrap ((Go.bits .and .u64 (a0 / 2) 6148914691236517205) + (Go.bits .and .u64 a0 6148914691236517205))) / 4) 3689348814741910323) + (Go.bits .and .u64 (IntKind.u64.wrap ((Go.bits .and .u64 (a0 / 2) 6148914691236517205) + (Go.bits .and .u64 a0 6148914691236517205))) 3689348814741910323))) / 16) + (IntKind.u64.wrap ((Go.bits .and .u64 ((IntKind.u64.wrap ((Go.bits .and .u64 (a0 / 2) 6148914691236517205) + (Go.bits .and .u64 a0 6148914691236517205))) / 4) 3689348814741910323) + (Go.bits .and .u64 (IntKind.u64.wrap ((Go.bits .and .u64 (a0 / 2) 6148914691236517205) + (Go.bits .and .u64 a0 6148914691236517205))) 3689348814741910323))))) 1085102592571150095) + ((Go.bits .and .u64 (IntKind.u64.wrap (((IntKind.u64.wrap ((Go.bits .and .u64 ((IntKind.u64.wrap ((Go.bits .and .u64 (a0 / 2) 6148914691236517205) + (Go.bits .and .u64 a0 6148914691236517205))) / 4) 3689348814741910323) + (Go.bits .and .u64 (IntKind.u64.wrap ((Go.bits .and .u64 (a0 / 2) 6148914691236517205) + (Go.bits .and .u64 a0 6148914691236517205))) 3689348814741910323))) / 16) + (IntKind.u64.wrap ((Go.bits .and .u64 ((IntKind.u64.wrap ((Go.bits .and .u64 (a0 / 2) 6148914691236517205) + (Go.bits .and .u64 a0 6148914691236517205))) / 4) 3689348814741910323) + (Go.bits .and .u64 (IntKind.u64.wrap ((Go.bits .and .u64 (a0 / 2) 6148914691236517205) + (Go.bits .and .u64 a0 6148914691236517205))) 3689348814741910323))))) 1085102592571150095) / 256))) / 65536))) + ((IntKind.u64.wrap ((IntKind.u64.wrap ((Go.bits .and .u64 (IntKind.u64.wrap (((IntKind.u64.wrap ((Go.bits .and .u64 ((IntKind.u64.wrap ((Go.bits .and .u64 (a0 / 2) 6148914691236517205) + (Go.bits .and .u64 a0 6148914691236517205))) / 4) 3689348814741910323) + (Go.bits .and .u64 (IntKind.u64.wrap ((Go.bits .and .u64 (a0 / 2) 6148914691236517205) + (Go.bits .and .u64 a0 6148914691236517205))) 3689348814741910323))) / 16) + (IntKind.u64.wrap ((Go.bits .and .u64 ((IntKind.u64.wrap ((Go.bits .and .u64 (a0 / 2) 6148914691236517205) + (Go.bits .and .u64 a0 6148914691236517205))) / 4) 3689348814741910323) + (Go.bits .and .u64 (IntKind.u64.wrap ((Go.bits .and .u64 (a0 / 2) 6148914691236517205) + (Go.bits .and .u64 a0 6148914691236517205))) 3689348814741910323))))) 1085102592571150095) + ((Go.bits .and .u64 (IntKind.u64.wrap (((IntKind.u64.wrap ((Go.bits .and .u64 ((IntKind.u64.wrap ((Go.bits .and .u64 (a0 / 2) 6148914691236517205) + (Go.bits .and .u64 a0 6148914691236517205))) / 4) 3689348814741910323) + (Go.bits .and .u64 (IntKind.u64.wrap ((Go.bits .and .u64 (a0 / 2) 6148914691236517205) + (Go.bits .and .u64 a0 6148914691236517205))) 3689348814741910323))) / 16) + (IntKind.u64.wrap ((Go.bits .and .u64 ((IntKind.u64.wrap ((Go.bits .and .u64 (a0 / 2) 6148914691236517205) + (Go.bits .and .u64 a0 6148914691236517205))) / 4) 3689348814741910323) + (Go.bits .and .u64 (IntKind.u64.wrap ((Go.bits .and .u64 (a0 / 2) 6148914691236517205) + (Go.bits .and .u64 a0 6148914691236517205))) 3689348814741910323))))) 1085102592571150095) / 256))) + ((IntKind.u64.wrap ((Go.bits .and .u64 (IntKind.u64.wrap (((IntKind.u64.wrap ((Go.bits .and .u64 ((IntKind.u64.wrap ((Go.bits .and .u64 (a0 / 2) 6148914691236517205) + (Go.bits .and .u64 a0 6148914691236517205))) / 4) 3689348814741910323) + (Go.bits .and .u64 (IntKind.u64.wrap ((Go.bits .and .u64 (a0 / 2) 6148914691236517205) + (Go.bits .and .u64 a0 6148914691236517205))) 3689348814741910323))) / 16) + (IntKind.u64.wrap ((Go.bits .and .u64 ((IntKind.u64.wrap ((Go.bits .and .u64 (a0 / 2) 6148914691236517205) + (Go.bits .and .u64 a0 6148914691236517205))) / 4) 3689348814741910323) + (Go.bits .and .u64 (IntKind.u64.wrap ((Go.bits .and .u64 (a0 / 2) 6148914691236517205) + (Go.bits .and .u64 a0 6148914691236517205))) 3689348814741910323))))) 1085102592571150095) + ((Go.bits .and .u64 (IntKind.u64.wrap (((IntKind.u64.wrap ((Go.bits .and .u64 ((IntKind.u64.wrap ((Go.bits .and .u64 (a0 / 2) 6148914691236517205) + (Go.bits .and .u64 a0 6148914691236517205))) / 4) 3689348814741910323) + (Go.bits .and .u64 (IntKind.u64.wrap ((Go.bits .and .u64 (a0 / 2) 6148914691236517205) + (Go.bits .and .u64 a0 6148914691236517205))) 3689348814741910323))) / 16) + (IntKind.u64.wrap ((Go.bits .and .u64 ((IntKind.u64.wrap ((Go.bits .and .u64 (a0 / 2) 6148914691236517205) + (Go.bits .and .u64 a0 6148914691236517205))) / 4) 3689348814741910323) + (Go.bits .and .u64 (IntKind.u64.wrap ((Go.bits .and .u64 (a0 / 2) 6148914691236517205) + (Go.bits .and .u64 a0 6148914691236517205))) 3689348814741910323))))) 1085102592571150095) / 256))) / 65536))) / 4294967296)))) 127)) = some r := h
 clear h
 obtain rfl := Option.some.inj H
 go_enter Try.func105, Try.ntmps105
 go_wp2
 go_ret
 exact ⟨by first | rfl | (simp; done) | (simp [*]; done), by repeat (first | exact Drawn0.refl _ | apply Drawn0.step)⟩

end Go.Proofs.Ytdojdjafleaedaa.PNarrowSound
