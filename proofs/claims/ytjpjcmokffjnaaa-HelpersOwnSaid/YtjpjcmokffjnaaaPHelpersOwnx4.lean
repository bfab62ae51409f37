/- Functions of the program that some laws reach, as Lean functions, and proofs that the program's calls come to what they say: written by a program, for the texts that import it; each theorem bears its own conditions. -/
import Derived.Test.YtjpjcmokffjnaaaPHelpersOwnx0
import Derived.Test.YtjpjcmokffjnaaaPHelpersOwnx1
import Derived.Test.YtjpjcmokffjnaaaPHelpersOwnx3
namespace Go.Proofs.Ytjpjcmokffjnaaa.PHelpersOwn
open Go.RowKit Go.Proofs.YtjpjcmokffjnaaaW.PrintWords Go.Proofs.YtjpjcmokffjnaaaW.PrintLast Go.Proofs.YtjpjcmokffjnaaaW.PrintMore
attribute [local go_sem] max2_int min2_int max_two min_two max_three min_three max_four min_four   -- for this text's walks alone
set_option linter.unusedVariables false
set_option linter.unusedSimpArgs false

/-! ### halberdlaw16_HelpersOwn: function 10 -/
mutual
def halberdlaw16_HelpersOwn.j0 : Nat → Int → Int → Int → Bool → ByteArray → List Int → List Int → Int → Option (Bool)
  | 0, _, _, _, _, _, _, _, _ => none
  | k + 1, x0, x1, x2, x25, x174000, x174001, x174002, x174003 => if x25 = true then (if 0 ≤ x1 then (if x1 < (x174001.length : Int) then (halberdlaw16_HelpersOwn.j1 k x0 x174000 (x174001.set (x1 : Int).toNat x2) x174002 x174003) else (none)) else (none)) else (halberdlaw16_HelpersOwn.j1 k x0 x174000 x174001 x174002 x174003)
def halberdlaw16_HelpersOwn.j1 : Nat → Int → ByteArray → List Int → List Int → Int → Option (Bool)
  | 0, _, _, _, _, _ => none
  | k + 1, x0, x174000, x174001, x174002, x174003 => halberdlaw16_HelpersOwn.l0 k x0 0 x174000 x174001 x174002 x174003
def halberdlaw16_HelpersOwn.l0 : Nat → Int → Int → ByteArray → List Int → List Int → Int → Option (Bool)
  | 0, _, _, _, _, _, _ => none
  | k + 1, x0, x9, x174000, x174001, x174002, x174003 => if x9 < (x174002.length : Int) then (if 0 ≤ x9 then (halberdlaw16_HelpersOwn.l0 k x0 (wrap64 (x9 + 1)) x174000 x174001 (x174002.set (x9 : Int).toNat 9) x174003) else (none)) else ((halberdlaw16_HelpersOf.f k x0 9).bind fun t176 => (if t176 = true then ((halberdlaw16_HelpersOf.f k x0 1).bind fun t177 => (some t177)) else (some false)))
end
def halberdlaw16_HelpersOwn.f (k : Nat) (a0 : Int) (a1 : Int) (a2 : Int) : Option (Bool) := (halberdlaw16_alive.f).bind fun t163 => (if t163 = true then ((helpers_Of.f a0).bind fun bt164 => (if a1 ≥ 0 then (halberdlaw16_HelpersOwn.j0 k a0 a1 a2 (decide (a1 < (bt164.2.1.length : Int))) bt164.1 bt164.2.1 bt164.2.2.1 bt164.2.2.2.1) else (halberdlaw16_HelpersOwn.j0 k a0 a1 a2 false bt164.1 bt164.2.1 bt164.2.2.1 bt164.2.2.2.1))) else (some false))
theorem halberdlaw16_HelpersOwn.mono_l : ∀ k, (∀ y0 y1 y2 y3 y4 y5 y6 y7, LeO (halberdlaw16_HelpersOwn.j0 k y0 y1 y2 y3 y4 y5 y6 y7) (halberdlaw16_HelpersOwn.j0 (k + 1) y0 y1 y2 y3 y4 y5 y6 y7)) ∧ (∀ y0 y1 y2 y3 y4, LeO (halberdlaw16_HelpersOwn.j1 k y0 y1 y2 y3 y4) (halberdlaw16_HelpersOwn.j1 (k + 1) y0 y1 y2 y3 y4)) ∧ (∀ y0 y1 y2 y3 y4 y5, LeO (halberdlaw16_HelpersOwn.l0 k y0 y1 y2 y3 y4 y5) (halberdlaw16_HelpersOwn.l0 (k + 1) y0 y1 y2 y3 y4 y5))
  | 0 => ⟨fun _ _ _ _ _ _ _ _ r h => by simp [halberdlaw16_HelpersOwn.j0] at h, fun _ _ _ _ _ r h => by simp [halberdlaw16_HelpersOwn.j1] at h, fun _ _ _ _ _ _ r h => by simp [halberdlaw16_HelpersOwn.l0] at h⟩
  | k + 1 => by
    obtain ⟨ih0, ih1, ih2⟩ := halberdlaw16_HelpersOwn.mono_l k
    refine ⟨?_, ?_, ?_⟩
    · intro y0 y1 y2 y3 y4 y5 y6 y7
      unfold halberdlaw16_HelpersOwn.j0
      repeat' first
      | (with_reducible exact ih0 _ _ _ _ _ _ _ _)
      | (with_reducible exact ih1 _ _ _ _ _)
      | (with_reducible exact ih2 _ _ _ _ _ _)
      | (with_reducible exact halberdlaw16_HelpersOf.mono _ _ _)
      | (with_reducible exact LeO.refl _)
      | (with_reducible exact LeO.none _)
      | (with_reducible refine LeO.ite ?_ ?_)
      | (with_reducible refine LeO.bind ?_ (fun _ => ?_))
      | exact ih0 _ _ _ _ _ _ _ _
      | exact ih1 _ _ _ _ _
      | exact ih2 _ _ _ _ _ _
      | exact halberdlaw16_HelpersOf.mono _ _ _
      | exact LeO.none _
      | refine LeO.ite ?_ ?_
      | refine LeO.bind ?_ (fun _ => ?_)
    · intro y0 y1 y2 y3 y4
      unfold halberdlaw16_HelpersOwn.j1
      repeat' first
      | (with_reducible exact ih0 _ _ _ _ _ _ _ _)
      | (with_reducible exact ih1 _ _ _ _ _)
      | (with_reducible exact ih2 _ _ _ _ _ _)
      | (with_reducible exact halberdlaw16_HelpersOf.mono _ _ _)
      | (with_reducible exact LeO.refl _)
      | (with_reducible exact LeO.none _)
      | (with_reducible refine LeO.ite ?_ ?_)
      | (with_reducible refine LeO.bind ?_ (fun _ => ?_))
      | exact ih0 _ _ _ _ _ _ _ _
      | exact ih1 _ _ _ _ _
      | exact ih2 _ _ _ _ _ _
      | exact halberdlaw16_HelpersOf.mono _ _ _
      | exact LeO.none _
      | refine LeO.ite ?_ ?_
      | refine LeO.bind ?_ (fun _ => ?_)
    · intro y0 y1 y2 y3 y4 y5
      unfold halberdlaw16_HelpersOwn.l0
      repeat' first
      | (with_reducible exact ih0 _ _ _ _ _ _ _ _)
      | (with_reducible exact ih1 _ _ _ _ _)
      | (with_reducible exact ih2 _ _ _ _ _ _)
      | (with_reducible exact halberdlaw16_HelpersOf.mono _ _ _)
      | (with_reducible exact LeO.refl _)
      | (with_reducible exact LeO.none _)
      | (with_reducible refine LeO.ite ?_ ?_)
      | (with_reducible refine LeO.bind ?_ (fun _ => ?_))
      | exact ih0 _ _ _ _ _ _ _ _
      | exact ih1 _ _ _ _ _
      | exact ih2 _ _ _ _ _ _
      | exact halberdlaw16_HelpersOf.mono _ _ _
      | exact LeO.none _
      | refine LeO.ite ?_ ?_
      | refine LeO.bind ?_ (fun _ => ?_)
theorem halberdlaw16_HelpersOwn.mono : ∀ a0 a1 a2 k, LeO (halberdlaw16_HelpersOwn.f k a0 a1 a2) (halberdlaw16_HelpersOwn.f (k + 1) a0 a1 a2) := by
  intro a0 a1 a2 k
  obtain ⟨ih0, ih1, ih2⟩ := halberdlaw16_HelpersOwn.mono_l k
  unfold halberdlaw16_HelpersOwn.f
  repeat' first
      | (with_reducible exact ih0 _ _ _ _ _ _ _ _)
      | (with_reducible exact ih1 _ _ _ _ _)
      | (with_reducible exact ih2 _ _ _ _ _ _)
      | (with_reducible exact halberdlaw16_HelpersOf.mono _ _ _)
      | (with_reducible exact LeO.refl _)
      | (with_reducible exact LeO.none _)
      | (with_reducible refine LeO.ite ?_ ?_)
      | (with_reducible refine LeO.bind ?_ (fun _ => ?_))
      | exact ih0 _ _ _ _ _ _ _ _
      | exact ih1 _ _ _ _ _
      | exact ih2 _ _ _ _ _ _
      | exact halberdlaw16_HelpersOf.mono _ _ _
      | exact LeO.none _
      | refine LeO.ite ?_ ?_
      | refine LeO.bind ?_ (fun _ => ?_)
set_option maxHeartbeats 8000000 in
set_option maxRecDepth 100000 in
theorem halberdlaw16_HelpersOwn.calls (k : Nat) (a0 : Int) (a1 : Int) (a2 : Int) (r : Bool) (w : World) (hr_ : Aside0 (r = true)) (h : halberdlaw16_HelpersOwn.f k a0 a1 a2 = some r) :
    Calls Try.prog 10 #[.int .i64 a0, .int .i64 a1, .int .u8 a2] w fun e w' => e = .returned (.bool r) ∧ Below w.heap.size w w' := by
  have hu51 := Try.underlying51
  have HB := Aside0.mk (Below.refl w.heap.size w)
  have H : ((halberdlaw16_alive.f).bind fun t163 => (if t163 = true then ((helpers_Of.f a0).bind fun bt164 => (if a1 ≥ 0 then (halberdlaw16_HelpersOwn.j0 k a0 a1 a2 (decide (a1 < (bt164.2.1.length : Int))) bt164.1 bt164.2.1 bt164.2.2.1 bt164.2.2.2.1) else (halberdlaw16_HelpersOwn.j0 k a0 a1 a2 false bt164.1 bt164.2.1 bt164.2.2.1 bt164.2.2.2.1))) else (some false))) = some r := h
  clear h
  replace H := Option.bind_eq_some_iff.mp H
  obtain ⟨t163, A40, H⟩ := H
  replace H : (if t163 = true then ((helpers_Of.f a0).bind fun bt164 => (if a1 ≥ 0 then (halberdlaw16_HelpersOwn.j0 k a0 a1 a2 (decide (a1 < (bt164.2.1.length : Int))) bt164.1 bt164.2.1 bt164.2.2.1 bt164.2.2.2.1) else (halberdlaw16_HelpersOwn.j0 k a0 a1 a2 false bt164.1 bt164.2.1 bt164.2.2.1 bt164.2.2.2.1))) else (some false)) = some r := H
  have A4 := Aside0.mk A40
  clear A40
  by_cases c5 : t163 = true
  · subst c5
    have H1 : ((helpers_Of.f a0).bind fun bt164 => (if a1 ≥ 0 then (halberdlaw16_HelpersOwn.j0 k a0 a1 a2 (decide (a1 < (bt164.2.1.length : Int))) bt164.1 bt164.2.1 bt164.2.2.1 bt164.2.2.2.1) else (halberdlaw16_HelpersOwn.j0 k a0 a1 a2 false bt164.1 bt164.2.1 bt164.2.2.1 bt164.2.2.2.1))) = some r := by rw [if_pos rfl] at H; exact H
    clear H
    have H := H1
    clear H1
    replace H := Option.bind_eq_some_iff.mp H
    obtain ⟨⟨t164, t165, t168, t171, t172⟩, A60, H⟩ := H
    replace H : (if a1 ≥ 0 then (halberdlaw16_HelpersOwn.j0 k a0 a1 a2 (decide (a1 < (t165.length : Int))) t164 t165 t168 t171) else (halberdlaw16_HelpersOwn.j0 k a0 a1 a2 false t164 t165 t168 t171)) = some r := H
    have A6 := Aside0.mk A60
    clear A60
    have HC7 := Aside0.mk H
    clear H
    go_enter Try.func10, Try.ntmps10
    go_upto_region 4 with (first | ((with_reducible refine gate_callee (f := 34) rfl ?_); refine goesL_ (some 10) rfl rfl Try.func34 (by kernel_rfl) rfl #[] rfl (by (try simp only [List.map_toArray, List.map_cons, List.map_nil]); first | done | rfl | (simp only [List.length_drop, List.length_take]; rfl)) ?_; (with_reducible refine (halberdlaw16_alive.calls  true _ A4.out).mono ?_); rintro e w8 ⟨rfl, hb⟩; refine ⟨_, rfl, ?_⟩; have n0_ := Aside0.mk (below_step (by repeat (first | (with_reducible first | exact HB.out | apply below_alloc | apply pw_below_drewN | apply below_drew1) | exact HB.out)) hb); clear HB; have HB := n0_; clear n0_; (try clear hb); (try clear hb2); (try clear hk); (try clear hi)) | ((with_reducible refine gate_callee (f := 37) rfl ?_); refine goesL_ (some 14) rfl rfl Try.func37 (by kernel_rfl) rfl #[.int .i64 a0] rfl (by (try simp only [List.map_toArray, List.map_cons, List.map_nil]); first | done | rfl | (simp only [List.length_drop, List.length_take]; rfl)) ?_; (with_reducible refine (helpers_Of.calls a0 t164 t165 t168 t171 t172 _ A6.out).mono ?_); rintro e w9 ⟨v166, v169, rfl, ho0, ho1, hb⟩; refine ⟨_, rfl, ?_⟩; have n0_ := Aside0.mk (Kd.R_lower ho0 (below_size (by repeat (first | (with_reducible first | exact HB.out | apply below_alloc | apply pw_below_drewN | apply below_drew1) | exact HB.out)))); have n1_ := Aside0.mk (Kd.R_lower ho1 (below_size (by repeat (first | (with_reducible first | exact HB.out | apply below_alloc | apply pw_below_drewN | apply below_drew1) | exact HB.out)))); have n2_ := Aside0.mk (below_step (by repeat (first | (with_reducible first | exact HB.out | apply below_alloc | apply pw_below_drewN | apply below_drew1) | exact HB.out)) hb); clear HB; have HO167 := n0_; have HO170 := n1_; have HB := n2_; clear n0_ n1_ n2_; (try clear hb); (try clear hb2); (try clear hk); (try clear hi); (try clear ho0); (try clear ho1)) | ((with_reducible refine gate_dst (N := 7) rfl ?_); (try (refine gate_guard (by rfl) ?_; dsimp only)); refine box_event ?hg (N := 7) ?hd (cs := #[.string (⟨#[]⟩ : ByteArray), .slice none 0 0, .slice none 0 0, .int .u8 0]) (t := 51) ?hr ?_; (case hd => rfl); (case hg => rfl); (case hr => first | (go_simp; done) | (go_simp; rfl)); intro gb173 hg w10 hbox hb; have n0_ := Aside0.mk (Kd.R_below (by (with_reducible repeat (first | apply Kd.R_alloc | apply Kd.R_drewN | apply Kd.R_drew)); exact HO167.out) hb); have n1_ := Aside0.mk (Kd.R_below (by (with_reducible repeat (first | apply Kd.R_alloc | apply Kd.R_drewN | apply Kd.R_drew)); exact HO170.out) hb); have n2_ := Aside0.mk (below_step (by repeat (first | (with_reducible first | exact HB.out | apply below_alloc | apply pw_below_drewN | apply below_drew1) | exact HB.out)) hb); have n3_ := Aside0.mk (hbox); have n4_ := Aside0.mk ((by rw [hg]; exact (below_size (by repeat (first | (with_reducible first | exact HB.out | apply below_alloc | apply pw_below_drewN | apply below_drew1) | exact HB.out))) : w.heap.size ≤ gb173)); have n5_ := Aside0.mk ((by rw [hg]; exact (below_size (by repeat (first | (with_reducible first | exact HB.out | apply below_alloc | apply pw_below_drewN | apply below_drew1) | exact HB.out))) : w.heap.size ≤ gb173)); clear HO167; clear HO170; clear HB; have HO167 := n0_; have HO170 := n1_; have HB := n2_; have BK173 := n3_; have GW173 := n4_; have GE173 := n5_; clear n0_ n1_ n2_ n3_ n4_ n5_; clear hb hbox hg; have hcz11_0 : w10.cell? ⟨gb173, 0, none⟩ = some (.string (⟨#[]⟩ : ByteArray)) := (blk_cell BK173.out 0).trans rfl; have hcz11_1 : w10.cell? ⟨gb173, 1, none⟩ = some (.slice none 0 0) := (blk_cell BK173.out 1).trans rfl; have hcz11_2 : w10.cell? ⟨gb173, 2, none⟩ = some (.slice none 0 0) := (blk_cell BK173.out 2).trans rfl; have hcz11_3 : w10.cell? ⟨gb173, 3, none⟩ = some (.int .u8 0) := (blk_cell BK173.out 3).trans rfl; have hfz11_0 := blk_frozen BK173.out 0; have hfz11_1 := blk_frozen BK173.out 1; have hfz11_2 := blk_frozen BK173.out 2; have hfz11_3 := blk_frozen BK173.out 3; obtain ⟨Ao12, co12, eo12⟩ := Kd.R_slice HO167.out; subst eo12; obtain ⟨Ao13, co13, eo13⟩ := Kd.R_slice HO170.out; subst eo13))
    (try simp only [Act.put, List.setIfInBounds_toArray, List.set_cons_zero, List.set_cons_succ])
    go_cut [25] (fun v25 wc => ∃ (kq : Nat) (x25_6 : Bool), v25 = .bool x25_6 ∧ Aside0 (halberdlaw16_HelpersOwn.j0 kq a0 a1 a2 x25_6 t164 t165 t168 t171 = some r) ∧ Aside0 (kq ≤ k) ∧ Aside0 (Kd.R (Kd.int .u8) 5 wc w.heap.size (fun _ => True) (.slice Ao12 t165.length co12) t165) ∧ Aside0 (Kd.R (Kd.int .i64) 3 wc w.heap.size (fun _ => True) (.slice Ao13 t168.length co13) t168) ∧ Aside0 (wc.heap[gb173]? = some (.cells #[.string t164, (.slice Ao12 t165.length co12), (.slice Ao13 t168.length co13), .int .u8 t171] 51 (0, 0))) ∧ Aside0 (Below w.heap.size w wc))
    case first =>
      have H := HC7.out
      clear HC7
      by_cases c14 : a1 ≥ 0
      · rw [if_pos c14] at H
        have c14b0 : decide (0 ≤ a1) = true := decide_eq_true c14
        clear c14
        (first | rw [c14b0] | (simp only [i64_w, i32_w]; rw [c14b0]) | skip)
        have H' := Aside0.mk H
        clear H
        have hcz15_0 : w10.cell? ⟨gb173, 0, none⟩ = some (.string (⟨#[]⟩ : ByteArray)) := (blk_cell BK173.out 0).trans rfl
        have hcz15_1 : w10.cell? ⟨gb173, 1, none⟩ = some (.slice none 0 0) := (blk_cell BK173.out 1).trans rfl
        have hcz15_2 : w10.cell? ⟨gb173, 2, none⟩ = some (.slice none 0 0) := (blk_cell BK173.out 2).trans rfl
        have hcz15_3 : w10.cell? ⟨gb173, 3, none⟩ = some (.int .u8 0) := (blk_cell BK173.out 3).trans rfl
        have hfz15_0 := blk_frozen BK173.out 0
        have hfz15_1 := blk_frozen BK173.out 1
        have hfz15_2 := blk_frozen BK173.out 2
        have hfz15_3 := blk_frozen BK173.out 3
        go_wp2
        go_meet
        case rel => exact ⟨_, (decide (a1 < (t165.length : Int))), (by first | rfl | (simp; done) | (simp [*]; done)), H', ⟨by first | omega | exact Nat.le_refl _⟩, ⟨by (with_reducible repeat (first | apply Kd.R_alloc | apply Kd.R_drewN | apply Kd.R_drew)); exact Kd.R_mono (Kd.R_far (p := ⟨gb173, 3, none⟩) (Kd.R_far (p := ⟨gb173, 2, none⟩) (Kd.R_far (p := ⟨gb173, 1, none⟩) (Kd.R_far (p := ⟨gb173, 0, none⟩) (Kd.R_types HO167.out BK173.out (by decide)) (fun _ hk => hk.2) (.string t164)) (fun _ hk => hk.2) (.slice Ao12 t165.length co12)) (fun _ hk => hk.2) (.slice Ao13 t168.length co13)) (fun _ hk => hk.2) (.int .u8 t171)) (fun _ hk => trivial)⟩, ⟨by (with_reducible repeat (first | apply Kd.R_alloc | apply Kd.R_drewN | apply Kd.R_drew)); exact Kd.R_mono (Kd.R_far (p := ⟨gb173, 3, none⟩) (Kd.R_far (p := ⟨gb173, 2, none⟩) (Kd.R_far (p := ⟨gb173, 1, none⟩) (Kd.R_far (p := ⟨gb173, 0, none⟩) (Kd.R_types HO170.out BK173.out (by decide)) (fun _ hk => hk.2) (.string t164)) (fun _ hk => hk.2) (.slice Ao12 t165.length co12)) (fun _ hk => hk.2) (.slice Ao13 t168.length co13)) (fun _ hk => hk.2) (.int .u8 t171)) (fun _ hk => trivial)⟩, ⟨by (with_reducible repeat (first | refine blk_drewN ?_ _ | refine blk_drew ?_ | refine blk_alloc ?_ _)); refine blk_put (cs := #[.string t164, .slice Ao12 t165.length co12, .slice Ao13 t168.length co13, .int .u8 0]) ?_ 3 _ rfl; (with_reducible repeat (first | refine blk_drewN ?_ _ | refine blk_drew ?_ | refine blk_alloc ?_ _)); refine blk_put (cs := #[.string t164, .slice Ao12 t165.length co12, .slice none 0 0, .int .u8 0]) ?_ 2 _ rfl; (with_reducible repeat (first | refine blk_drewN ?_ _ | refine blk_drew ?_ | refine blk_alloc ?_ _)); refine blk_put (cs := #[.string t164, .slice none 0 0, .slice none 0 0, .int .u8 0]) ?_ 1 _ rfl; (with_reducible repeat (first | refine blk_drewN ?_ _ | refine blk_drew ?_ | refine blk_alloc ?_ _)); refine blk_put (cs := #[.string (⟨#[]⟩ : ByteArray), .slice none 0 0, .slice none 0 0, .int .u8 0]) ?_ 0 _ rfl; (with_reducible repeat (first | refine blk_drewN ?_ _ | refine blk_drew ?_ | refine blk_alloc ?_ _)); exact BK173.out⟩, ⟨by repeat (first | (with_reducible first | exact HB.out | apply below_alloc | apply pw_below_drewN | apply below_drew1 | refine below_set ?_ GE173.out) | exact HB.out)⟩⟩
      · rw [if_neg c14] at H
        have c14b0 : decide (0 ≤ a1) = false := decide_eq_false c14
        clear c14
        (first | rw [c14b0] | (simp only [i64_w, i32_w]; rw [c14b0]) | skip)
        have H' := Aside0.mk H
        clear H
        go_wp2
        go_meet
        case rel => exact ⟨_, (false), (by first | rfl | (simp; done) | (simp [*]; done)), H', ⟨by first | omega | exact Nat.le_refl _⟩, ⟨by (with_reducible repeat (first | apply Kd.R_alloc | apply Kd.R_drewN | apply Kd.R_drew)); exact Kd.R_mono (Kd.R_far (p := ⟨gb173, 3, none⟩) (Kd.R_far (p := ⟨gb173, 2, none⟩) (Kd.R_far (p := ⟨gb173, 1, none⟩) (Kd.R_far (p := ⟨gb173, 0, none⟩) (Kd.R_types HO167.out BK173.out (by decide)) (fun _ hk => hk.2) (.string t164)) (fun _ hk => hk.2) (.slice Ao12 t165.length co12)) (fun _ hk => hk.2) (.slice Ao13 t168.length co13)) (fun _ hk => hk.2) (.int .u8 t171)) (fun _ hk => trivial)⟩, ⟨by (with_reducible repeat (first | apply Kd.R_alloc | apply Kd.R_drewN | apply Kd.R_drew)); exact Kd.R_mono (Kd.R_far (p := ⟨gb173, 3, none⟩) (Kd.R_far (p := ⟨gb173, 2, none⟩) (Kd.R_far (p := ⟨gb173, 1, none⟩) (Kd.R_far (p := ⟨gb173, 0, none⟩) (Kd.R_types HO170.out BK173.out (by decide)) (fun _ hk => hk.2) (.string t164)) (fun _ hk => hk.2) (.slice Ao12 t165.length co12)) (fun _ hk => hk.2) (.slice Ao13 t168.length co13)) (fun _ hk => hk.2) (.int .u8 t171)) (fun _ hk => trivial)⟩, ⟨by (with_reducible repeat (first | refine blk_drewN ?_ _ | refine blk_drew ?_ | refine blk_alloc ?_ _)); refine blk_put (cs := #[.string t164, .slice Ao12 t165.length co12, .slice Ao13 t168.length co13, .int .u8 0]) ?_ 3 _ rfl; (with_reducible repeat (first | refine blk_drewN ?_ _ | refine blk_drew ?_ | refine blk_alloc ?_ _)); refine blk_put (cs := #[.string t164, .slice Ao12 t165.length co12, .slice none 0 0, .int .u8 0]) ?_ 2 _ rfl; (with_reducible repeat (first | refine blk_drewN ?_ _ | refine blk_drew ?_ | refine blk_alloc ?_ _)); refine blk_put (cs := #[.string t164, .slice none 0 0, .slice none 0 0, .int .u8 0]) ?_ 1 _ rfl; (with_reducible repeat (first | refine blk_drewN ?_ _ | refine blk_drew ?_ | refine blk_alloc ?_ _)); refine blk_put (cs := #[.string (⟨#[]⟩ : ByteArray), .slice none 0 0, .slice none 0 0, .int .u8 0]) ?_ 0 _ rfl; (with_reducible repeat (first | refine blk_drewN ?_ _ | refine blk_drew ?_ | refine blk_alloc ?_ _)); exact BK173.out⟩, ⟨by repeat (first | (with_reducible first | exact HB.out | apply below_alloc | apply pw_below_drewN | apply below_drew1 | refine below_set ?_ GE173.out) | exact HB.out)⟩⟩
    case rest =>
      clear HC7
      try clear c1
      try clear p2
      try clear c3
      try clear c5
      try clear c10
      try clear c14
      try clear c14b0
      try clear hcz11_0
      try clear hcz11_1
      try clear hcz11_2
      try clear hcz11_3
      try clear hcz15_0
      try clear hcz15_1
      try clear hcz15_2
      try clear hcz15_3
      try clear hfz11_0
      try clear hfz11_1
      try clear hfz11_2
      try clear hfz11_3
      try clear hfz15_0
      try clear hfz15_1
      try clear hfz15_2
      try clear hfz15_3
      obtain ⟨kq, x25_6, rfl, HA, HJ6, HO_174001, HO_174002, BK173, HB⟩ := hcut
      cases kq with
      | zero => exact absurd HA.out (by simp [halberdlaw16_HelpersOwn.j0])
      | succ kj6 =>
        have H := HA.out
        clear HA
        simp only [halberdlaw16_HelpersOwn.j0] at H
        have HC16 := Aside0.mk H
        clear H
        go_upto_if 25 with (fail)
        go_cut [] (fun wc => ∃ (kq : Nat) (x174001_15 : List Int) (u174001 : Value), Aside0 (halberdlaw16_HelpersOwn.j1 kq a0 t164 x174001_15 t168 t171 = some r) ∧ Aside0 (kq ≤ kj6) ∧ Aside0 (Kd.R (Kd.int .u8) 5 wc w.heap.size (fun _ => True) u174001 x174001_15) ∧ Aside0 (Kd.R (Kd.int .i64) 3 wc w.heap.size (fun _ => True) (.slice Ao13 t168.length co13) t168) ∧ Aside0 (wc.heap[gb173]? = some (.cells #[.string t164, u174001, (.slice Ao13 t168.length co13), .int .u8 t171] 51 (0, 0))) ∧ Aside0 (Below w.heap.size w wc))
        case first =>
          have H := HC16.out
          clear HC16
          by_cases c17 : x25_6 = true
          · subst c17
            have H1 : (if 0 ≤ a1 then (if a1 < (t165.length : Int) then (halberdlaw16_HelpersOwn.j1 kj6 a0 t164 (t165.set (a1 : Int).toNat a2) t168 t171) else (none)) else (none)) = some r := by rw [if_pos rfl] at H; exact H
            clear H
            have H := H1
            clear H1
            by_cases c18 : 0 ≤ a1
            · rw [if_pos c18] at H
              have c18b0 : decide (0 ≤ a1) = true := decide_eq_true c18
              clear c18
              (first | rw [c18b0] | (simp only [i64_w, i32_w]; rw [c18b0]) | skip)
              by_cases c19 : a1 < (t165.length : Int)
              · rw [if_pos c19] at H
                have c19b0 : decide (a1 < (t165.length : Int)) = true := decide_eq_true c19
                clear c19
                obtain ⟨y174, hy174⟩ : ∃ y_ : List Int, y_ = (t165.set (a1 : Int).toNat a2) := ⟨_, rfl⟩
                replace H : (halberdlaw16_HelpersOwn.j1 kj6 a0 t164 y174 t168 t171) = some r := by first | (rw [hy174]; with_reducible exact H) | (have H2_ := (Option.bind_some _ _).symm.trans H; rw [hy174]; with_reducible exact H2_) | (have H2_ := (Option.bind_some _ _).symm.trans H; with_reducible exact H2_) | with_reducible exact H | (rw [hy174]; exact H) | exact H
                have Ny174 := Aside0.mk hy174
                clear hy174
                have H' := Aside0.mk H
                clear H
                have hcz21_0 : wc.cell? ⟨gb173, 0, none⟩ = some (.string t164) := (blk_cell BK173.out 0).trans rfl
                have hcz21_1 : wc.cell? ⟨gb173, 1, none⟩ = some (.slice Ao12 t165.length co12) := (blk_cell BK173.out 1).trans rfl
                have hcz21_2 : wc.cell? ⟨gb173, 2, none⟩ = some (.slice Ao13 t168.length co13) := (blk_cell BK173.out 2).trans rfl
                have hcz21_3 : wc.cell? ⟨gb173, 3, none⟩ = some (.int .u8 t171) := (blk_cell BK173.out 3).trans rfl
                have hfz21_0 := blk_frozen BK173.out 0
                have hfz21_1 := blk_frozen BK173.out 1
                have hfz21_2 := blk_frozen BK173.out 2
                have hfz21_3 := blk_frozen BK173.out 3
                have p20 : 0 ≤ (a1 : Int) := of_decide_eq_true (by first | (with_reducible assumption) | assumption)
                have q20 : (a1 : Int) < ((t165.length : Int) : Int) := of_decide_eq_true (by first | (with_reducible assumption) | assumption)
                obtain ⟨go20, co20, eo20, gb20, gl20, cl20, HG20⟩ := Kd.R_form HO_174001.out (by omega)
                (first | cases eo20 | (injection eo20 with ea_ en_ ec_; (first | subst ea_ | (injection ea_ with ea_; subst ea_)); subst ec_; clear en_))
                have GB20 := Aside0.mk gb20
                have GG20 := Aside0.mk HG20
                clear gb20 gl20 HG20
                obtain ⟨hx20_0, hf20_0⟩ := Kd.R_celln 0 HO_174001.out (a1 : Int) p20 q20
                replace p20 := eq_true p20
                replace q20 := eq_true q20
                have HP22 := Kd.R_putg HO_174001.out (a1 : Int) a2
                go_wp2_with (first | ((with_reducible refine gate_store (t := 5) (p := 30) rfl ?_); refine store_event (t := 5) (p := 30) (v := ?vo_w23) (w1 := (wc.setCell ⟨go20, (a1 : Int).toNat, none⟩ (.int .u8 a2))) ?hg ?ho ?hn ?hr ?_; (case ho => rfl); (case hg => rfl); (case hn => rfl); (case hr => first | (go_simp; done) | (go_simp; rfl)); intro w23 hw; have hg : wc.grownBy w23 (some go20) := (by rw [hw]; exact HP22.2); have hp_ : Kd.R (Kd.int .u8) 5 w23 w.heap.size (fun _ => True) (.slice (some ⟨go20, 0, none⟩) t165.length co12) y174 := (by rw [hw, Ny174.out]; exact HP22.1); clear HP22; have n0_ := Aside0.mk (hp_); have n1_ := Aside0.mk (Kd.R_over' (v := (.slice (some ⟨go20, 0, none⟩) t165.length co12)) (by (with_reducible repeat (first | apply Kd.R_alloc | apply Kd.R_drewN | apply Kd.R_drew)); exact HO_174002.out) (Kd.R_typed HO_174001.out) (by decide) hg); have n2_ := Aside0.mk (blk_grown (g := gb173) (o := .cells #[.string t164, .slice (some ⟨go20, 0, none⟩) t165.length co12, .slice Ao13 t168.length co13, .int .u8 t171] 51 (0, 0)) (by (with_reducible repeat (first | refine blk_drewN ?_ _ | refine blk_drew ?_ | refine blk_alloc ?_ _)); exact BK173.out) hg (Kd.R_ne HO_174001.out BK173.out (by decide))); have n3_ := Aside0.mk ((by rw [hw]; exact below_set (HB.out) GB20.out : Below w.heap.size w w23)); clear HO_174001; clear HO_174002; clear BK173; clear HB; have HO_174001 := n0_; have HO_174002 := n1_; have BK173 := n2_; have HB := n3_; clear n0_ n1_ n2_ n3_; clear hg hw hp_))
                go_meet
                case rel => exact ⟨_, (y174), (.slice (some ⟨go20, 0, none⟩) t165.length co12), H', ⟨by have := HJ6.out; first | omega | exact Nat.le_refl _⟩, ⟨by (with_reducible repeat (first | apply Kd.R_alloc | apply Kd.R_drewN | apply Kd.R_drew)); exact HO_174001.out⟩, ⟨by (with_reducible repeat (first | apply Kd.R_alloc | apply Kd.R_drewN | apply Kd.R_drew)); exact HO_174002.out⟩, ⟨by (with_reducible repeat (first | refine blk_drewN ?_ _ | refine blk_drew ?_ | refine blk_alloc ?_ _)); exact BK173.out⟩, ⟨by repeat (first | (with_reducible first | exact HB.out | apply below_alloc | apply pw_below_drewN | apply below_drew1 | refine below_set ?_ GE173.out) | exact HB.out)⟩⟩
              · rw [if_neg c19] at H
                exact absurd H (by simp)
            · rw [if_neg c18] at H
              exact absurd H (by simp)
          · replace c17 := Bool.eq_false_iff.mpr c17
            subst c17
            have H1 : (halberdlaw16_HelpersOwn.j1 kj6 a0 t164 t165 t168 t171) = some r := by rw [if_neg (show ¬ (false = true) by decide)] at H; exact H
            clear H
            have H := H1
            clear H1
            have H' := Aside0.mk H
            clear H
            go_wp2
            go_meet
            case rel => exact ⟨_, (t165), (.slice Ao12 t165.length co12), H', ⟨by have := HJ6.out; first | omega | exact Nat.le_refl _⟩, ⟨by (with_reducible repeat (first | apply Kd.R_alloc | apply Kd.R_drewN | apply Kd.R_drew)); exact HO_174001.out⟩, ⟨by (with_reducible repeat (first | apply Kd.R_alloc | apply Kd.R_drewN | apply Kd.R_drew)); exact HO_174002.out⟩, ⟨by (with_reducible repeat (first | refine blk_drewN ?_ _ | refine blk_drew ?_ | refine blk_alloc ?_ _)); exact BK173.out⟩, ⟨by repeat (first | (with_reducible first | exact HB.out | apply below_alloc | apply pw_below_drewN | apply below_drew1 | refine below_set ?_ GE173.out) | exact HB.out)⟩⟩
        case rest =>
          clear HC16
          try clear c1
          try clear p2
          try clear q2
          try clear hx2
          try clear c3
          try clear c5
          try clear c10
          try clear c14
          try clear c14b0
          try clear c17
          try clear c18
          try clear c18b0
          try clear c19
          try clear c19b0
          try clear p20
          try clear q20
          try clear hx20
          try clear hf20
          try clear hcz11_0
          try clear hcz11_1
          try clear hcz11_2
          try clear hcz11_3
          try clear hcz15_0
          try clear hcz15_1
          try clear hcz15_2
          try clear hcz15_3
          try clear hcz21_0
          try clear hcz21_1
          try clear hcz21_2
          try clear hcz21_3
          try clear hfz11_0
          try clear hfz11_1
          try clear hfz11_2
          try clear hfz11_3
          try clear hfz15_0
          try clear hfz15_1
          try clear hfz15_2
          try clear hfz15_3
          try clear hfz21_0
          try clear hfz21_1
          try clear hfz21_2
          try clear hfz21_3
          try clear hx20_0
          try clear p2
          try clear p20
          try clear q20
          obtain ⟨kq, x174001_15, u174001, HA, HJ15, HO_174001, HO_174002, BK173, HB⟩ := hcut
          cases kq with
          | zero => exact absurd HA.out (by simp [halberdlaw16_HelpersOwn.j1])
          | succ kj15 =>
            have H := HA.out
            clear HA
            simp only [halberdlaw16_HelpersOwn.j1] at H
            have H' := Aside0.mk H
            clear H
            go_wp2
            go_loopg [9] kj15 (fun kq v9 w' => ∃ (x9_3 : Int) (x174002_3 : List Int) (u174002 : Value), v9 = .int .i64 x9_3 ∧ Aside0 (halberdlaw16_HelpersOwn.l0 kq a0 x9_3 t164 x174001_15 x174002_3 t171 = some r) ∧ Aside0 (kq ≤ kj15) ∧ Aside0 (Kd.R (Kd.int .u8) 5 w' w.heap.size (fun _ => True) u174001 x174001_15) ∧ Aside0 (Kd.R (Kd.int .i64) 3 w' w.heap.size (fun _ => True) u174002 x174002_3) ∧ Aside0 (w'.heap[gb173]? = some (.cells #[.string t164, u174001, u174002, .int .u8 t171] 51 (0, 0))) ∧ Aside0 (Below w.heap.size w w'))
            case atStart => exact ⟨(0), (t168), (.slice Ao13 t168.length co13), (by first | rfl | (simp; done) | (simp [*]; done)), H', ⟨Nat.le_refl _⟩, ⟨by (with_reducible repeat (first | apply Kd.R_alloc | apply Kd.R_drewN | apply Kd.R_drew)); exact HO_174001.out⟩, ⟨by (with_reducible repeat (first | apply Kd.R_alloc | apply Kd.R_drewN | apply Kd.R_drew)); exact HO_174002.out⟩, ⟨by (with_reducible repeat (first | refine blk_drewN ?_ _ | refine blk_drew ?_ | refine blk_alloc ?_ _)); exact BK173.out⟩, ⟨by repeat (first | (with_reducible first | exact HB.out | apply below_alloc | apply pw_below_drewN | apply below_drew1 | refine below_set ?_ GE173.out) | exact HB.out)⟩⟩
            case round =>
              clear H'
              try clear c1
              try clear p2
              try clear q2
              try clear hx2
              try clear c3
              try clear c5
              try clear c10
              try clear c14
              try clear c14b0
              try clear c17
              try clear c18
              try clear c18b0
              try clear c19
              try clear c19b0
              try clear p20
              try clear q20
              try clear hx20
              try clear hf20
              try clear hcz11_0
              try clear hcz11_1
              try clear hcz11_2
              try clear hcz11_3
              try clear hcz15_0
              try clear hcz15_1
              try clear hcz15_2
              try clear hcz15_3
              try clear hcz21_0
              try clear hcz21_1
              try clear hcz21_2
              try clear hcz21_3
              try clear hfz11_0
              try clear hfz11_1
              try clear hfz11_2
              try clear hfz11_3
              try clear hfz15_0
              try clear hfz15_1
              try clear hfz15_2
              try clear hfz15_3
              try clear hfz21_0
              try clear hfz21_1
              try clear hfz21_2
              try clear hfz21_3
              try clear hx20_0
              try clear p2
              try clear p20
              try clear q2
              try clear q20
              obtain ⟨x9_3, x174002_3, u174002, rfl, HA, HK3, HO_174001, HO_174002, BK173, HB⟩ := hrel
              cases gk with
              | zero => exact absurd HA.out (by simp [halberdlaw16_HelpersOwn.l0])
              | succ k3 =>
                have H := HA.out
                clear HA
                simp only [halberdlaw16_HelpersOwn.l0] at H
                by_cases c24 : x9_3 < (x174002_3.length : Int)
                · rw [if_pos c24] at H
                  have c24b0 : decide (x9_3 < (x174002_3.length : Int)) = true := decide_eq_true c24
                  clear c24
                  by_cases c25 : 0 ≤ x9_3
                  · rw [if_pos c25] at H
                    have c25b0 : decide (0 ≤ x9_3) = true := decide_eq_true c25
                    clear c25
                    obtain ⟨y175, hy175⟩ : ∃ y_ : List Int, y_ = (x174002_3.set (x9_3 : Int).toNat 9) := ⟨_, rfl⟩
                    replace H : (halberdlaw16_HelpersOwn.l0 k3 a0 (wrap64 (x9_3 + 1)) t164 x174001_15 y175 t171) = some r := by first | (rw [hy175]; with_reducible exact H) | (have H2_ := (Option.bind_some _ _).symm.trans H; rw [hy175]; with_reducible exact H2_) | (have H2_ := (Option.bind_some _ _).symm.trans H; with_reducible exact H2_) | with_reducible exact H | (rw [hy175]; exact H) | exact H
                    have Ny175 := Aside0.mk hy175
                    clear hy175
                    have H' := Aside0.mk H
                    clear H
                    have hcz27_0 : wr.cell? ⟨gb173, 0, none⟩ = some (.string t164) := (blk_cell BK173.out 0).trans rfl
                    have hcz27_1 : wr.cell? ⟨gb173, 1, none⟩ = some (u174001) := (blk_cell BK173.out 1).trans rfl
                    have hcz27_2 : wr.cell? ⟨gb173, 2, none⟩ = some (u174002) := (blk_cell BK173.out 2).trans rfl
                    have hcz27_3 : wr.cell? ⟨gb173, 3, none⟩ = some (.int .u8 t171) := (blk_cell BK173.out 3).trans rfl
                    have hfz27_0 := blk_frozen BK173.out 0
                    have hfz27_1 := blk_frozen BK173.out 1
                    have hfz27_2 := blk_frozen BK173.out 2
                    have hfz27_3 := blk_frozen BK173.out 3
                    obtain ⟨Ao28, co28, eo28⟩ := Kd.R_slice HO_174002.out
                    subst eo28
                    have p26 : 0 ≤ (x9_3 : Int) := of_decide_eq_true (by first | (with_reducible assumption) | assumption)
                    have q26 : (x9_3 : Int) < ((x174002_3.length : Int) : Int) := of_decide_eq_true (by first | (with_reducible assumption) | assumption)
                    obtain ⟨go26, co26, eo26, gb26, gl26, cl26, HG26⟩ := Kd.R_form HO_174002.out (by omega)
                    (first | cases eo26 | (injection eo26 with ea_ en_ ec_; (first | subst ea_ | (injection ea_ with ea_; subst ea_)); subst ec_; clear en_))
                    have GB26 := Aside0.mk gb26
                    have GG26 := Aside0.mk HG26
                    clear gb26 gl26 HG26
                    obtain ⟨hx26_0, hf26_0⟩ := Kd.R_celln 0 HO_174002.out (x9_3 : Int) p26 q26
                    replace p26 := eq_true p26
                    replace q26 := eq_true q26
                    have HP29 := Kd.R_putg HO_174002.out (x9_3 : Int) 9
                    go_wp2_with (first | ((with_reducible refine gate_store (t := 3) (p := 41) rfl ?_); refine store_event (t := 3) (p := 41) (v := ?vo_w30) (w1 := (wr.setCell ⟨go26, (x9_3 : Int).toNat, none⟩ (.int .i64 9))) ?hg ?ho ?hn ?hr ?_; (case ho => rfl); (case hg => rfl); (case hn => rfl); (case hr => first | (go_simp; done) | (go_simp; rfl)); intro w30 hw; have hg : wr.grownBy w30 (some go26) := (by rw [hw]; exact HP29.2); have hp_ : Kd.R (Kd.int .i64) 3 w30 w.heap.size (fun _ => True) (.slice (some ⟨go26, 0, none⟩) x174002_3.length co28) y175 := (by rw [hw, Ny175.out]; exact HP29.1); clear HP29; have n0_ := Aside0.mk (Kd.R_over' (v := (.slice (some ⟨go26, 0, none⟩) x174002_3.length co28)) (by (with_reducible repeat (first | apply Kd.R_alloc | apply Kd.R_drewN | apply Kd.R_drew)); exact HO_174001.out) (Kd.R_typed HO_174002.out) (by decide) hg); have n1_ := Aside0.mk (hp_); have n2_ := Aside0.mk (blk_grown (g := gb173) (o := .cells #[.string t164, u174001, .slice (some ⟨go26, 0, none⟩) x174002_3.length co28, .int .u8 t171] 51 (0, 0)) (by (with_reducible repeat (first | refine blk_drewN ?_ _ | refine blk_drew ?_ | refine blk_alloc ?_ _)); exact BK173.out) hg (Kd.R_ne HO_174002.out BK173.out (by decide))); have n3_ := Aside0.mk ((by rw [hw]; exact below_set (HB.out) GB26.out : Below w.heap.size w w30)); clear HO_174001; clear HO_174002; clear BK173; clear HB; have HO_174001 := n0_; have HO_174002 := n1_; have BK173 := n2_; have HB := n3_; clear n0_ n1_ n2_ n3_; clear hg hw hp_))
                    go_roundg k3
                    case measure => have := HJ6.out; have := HJ15.out; have := HK3.out; omega
                    case rel => exact ⟨(wrap64 (x9_3 + 1)), (y175), (.slice (some ⟨go26, 0, none⟩) x174002_3.length co28), (by first | rfl | (simp; done) | (simp [*]; done)), H', ⟨by have := HJ6.out; have := HJ15.out; have := HK3.out; omega⟩, ⟨by (with_reducible repeat (first | apply Kd.R_alloc | apply Kd.R_drewN | apply Kd.R_drew)); exact HO_174001.out⟩, ⟨by (with_reducible repeat (first | apply Kd.R_alloc | apply Kd.R_drewN | apply Kd.R_drew)); exact HO_174002.out⟩, ⟨by (with_reducible repeat (first | refine blk_drewN ?_ _ | refine blk_drew ?_ | refine blk_alloc ?_ _)); exact BK173.out⟩, ⟨by repeat (first | (with_reducible first | exact HB.out | apply below_alloc | apply pw_below_drewN | apply below_drew1 | refine below_set ?_ GE173.out) | exact HB.out)⟩⟩
                  · rw [if_neg c25] at H
                    exact absurd H (by simp)
                · rw [if_neg c24] at H
                  have c24b0 : decide (x9_3 < (x174002_3.length : Int)) = false := decide_eq_false c24
                  clear c24
                  replace H := Option.bind_eq_some_iff.mp H
                  obtain ⟨t176, A310, H⟩ := H
                  replace H : (if t176 = true then ((halberdlaw16_HelpersOf.f k3 a0 1).bind fun t177 => (some t177)) else (some false)) = some r := H
                  have A31 := Aside0.mk A310
                  clear A310
                  by_cases c32 : t176 = true
                  · subst c32
                    have H1 : ((halberdlaw16_HelpersOf.f k3 a0 1).bind fun t177 => (some t177)) = some r := by rw [if_pos rfl] at H; exact H
                    clear H
                    have H := H1
                    clear H1
                    replace H := Option.bind_eq_some_iff.mp H
                    obtain ⟨t177, A330, H⟩ := H
                    replace H : (some t177) = some r := H
                    have A33 := Aside0.mk A330
                    clear A330
                    obtain rfl := Option.some.inj H
                    have hcz34_0 : wr.cell? ⟨gb173, 0, none⟩ = some (.string t164) := (blk_cell BK173.out 0).trans rfl
                    have hcz34_1 : wr.cell? ⟨gb173, 1, none⟩ = some (u174001) := (blk_cell BK173.out 1).trans rfl
                    have hcz34_2 : wr.cell? ⟨gb173, 2, none⟩ = some (u174002) := (blk_cell BK173.out 2).trans rfl
                    have hcz34_3 : wr.cell? ⟨gb173, 3, none⟩ = some (.int .u8 t171) := (blk_cell BK173.out 3).trans rfl
                    have hfz34_0 := blk_frozen BK173.out 0
                    have hfz34_1 := blk_frozen BK173.out 1
                    have hfz34_2 := blk_frozen BK173.out 2
                    have hfz34_3 := blk_frozen BK173.out 3
                    obtain ⟨Ao35, co35, eo35⟩ := Kd.R_slice HO_174002.out
                    subst eo35
                    go_wp2_with (first | ((with_reducible refine gate_callee (f := 9) rfl ?_); refine goesL_ (some 43) rfl rfl Try.func9 (by kernel_rfl) rfl #[.int .i64 a0, .int .i64 9] rfl (by (try simp only [List.map_toArray, List.map_cons, List.map_nil]); first | done | rfl | (simp only [List.length_drop, List.length_take]; rfl)) ?_; (with_reducible refine (halberdlaw16_HelpersOf.calls k3 a0 9 true _ A31.out).mono ?_); rintro e w36 ⟨rfl, hb⟩; refine ⟨_, rfl, ?_⟩; have n0_ := Aside0.mk (Kd.R_below (by (with_reducible repeat (first | apply Kd.R_alloc | apply Kd.R_drewN | apply Kd.R_drew)); exact HO_174001.out) hb); have n1_ := Aside0.mk (Kd.R_below (by (with_reducible repeat (first | apply Kd.R_alloc | apply Kd.R_drewN | apply Kd.R_drew)); exact HO_174002.out) hb); have n2_ := Aside0.mk (blk_below (g := gb173) (o := .cells #[.string t164, u174001, .slice Ao35 x174002_3.length co35, .int .u8 t171] 51 (0, 0)) (by (with_reducible repeat (first | refine blk_drewN ?_ _ | refine blk_drew ?_ | refine blk_alloc ?_ _)); exact BK173.out) hb); have n3_ := Aside0.mk (below_step (by repeat (first | (with_reducible first | exact HB.out | apply below_alloc | apply pw_below_drewN | apply below_drew1 | refine below_set ?_ GE173.out) | exact HB.out)) hb); clear HO_174001; clear HO_174002; clear BK173; clear HB; have HO_174001 := n0_; have HO_174002 := n1_; have BK173 := n2_; have HB := n3_; clear n0_ n1_ n2_ n3_; (try clear hb); (try clear hb2); (try clear hk); (try clear hi)) | (go_at_call 9; (with_reducible refine (halberdlaw16_HelpersOf.calls k3 a0 1 t177 _ A33.out).mono ?_); rintro e w37 ⟨rfl, hb⟩; have n0_ := Aside0.mk (Kd.R_below (by (with_reducible repeat (first | apply Kd.R_alloc | apply Kd.R_drewN | apply Kd.R_drew)); exact HO_174001.out) hb); have n1_ := Aside0.mk (Kd.R_below (by (with_reducible repeat (first | apply Kd.R_alloc | apply Kd.R_drewN | apply Kd.R_drew)); exact HO_174002.out) hb); have n2_ := Aside0.mk (blk_below (g := gb173) (o := .cells #[.string t164, u174001, .slice Ao35 x174002_3.length co35, .int .u8 t171] 51 (0, 0)) (by (with_reducible repeat (first | refine blk_drewN ?_ _ | refine blk_drew ?_ | refine blk_alloc ?_ _)); exact BK173.out) hb); have n3_ := Aside0.mk (below_step (by repeat (first | (with_reducible first | exact HB.out | apply below_alloc | apply pw_below_drewN | apply below_drew1 | refine below_set ?_ GE173.out) | exact HB.out)) hb); clear HO_174001; clear HO_174002; clear BK173; clear HB; have HO_174001 := n0_; have HO_174002 := n1_; have BK173 := n2_; have HB := n3_; clear n0_ n1_ n2_ n3_; (try clear hb); (try clear hb2); (try clear hk); (try clear hi)) | (go_at_call 9; (with_reducible refine (halberdlaw16_HelpersOf.calls k3 a0 9 true _ A31.out).mono ?_); rintro e w36 ⟨rfl, hb⟩; have n0_ := Aside0.mk (Kd.R_below (by (with_reducible repeat (first | apply Kd.R_alloc | apply Kd.R_drewN | apply Kd.R_drew)); exact HO_174001.out) hb); have n1_ := Aside0.mk (Kd.R_below (by (with_reducible repeat (first | apply Kd.R_alloc | apply Kd.R_drewN | apply Kd.R_drew)); exact HO_174002.out) hb); have n2_ := Aside0.mk (blk_below (g := gb173) (o := .cells #[.string t164, u174001, .slice Ao35 x174002_3.length co35, .int .u8 t171] 51 (0, 0)) (by (with_reducible repeat (first | refine blk_drewN ?_ _ | refine blk_drew ?_ | refine blk_alloc ?_ _)); exact BK173.out) hb); have n3_ := Aside0.mk (below_step (by repeat (first | (with_reducible first | exact HB.out | apply below_alloc | apply pw_below_drewN | apply below_drew1 | refine below_set ?_ GE173.out) | exact HB.out)) hb); clear HO_174001; clear HO_174002; clear BK173; clear HB; have HO_174001 := n0_; have HO_174002 := n1_; have BK173 := n2_; have HB := n3_; clear n0_ n1_ n2_ n3_; (try clear hb); (try clear hb2); (try clear hk); (try clear hi)))
                    go_ret
                    exact ⟨by first | rfl | (simp [errW_none, errW_some] <;> rfl) | (simp [*, errW_none, errW_some] <;> rfl), by repeat (first | (with_reducible first | exact HB.out | apply below_alloc | apply pw_below_drewN | apply below_drew1 | refine below_set ?_ GE173.out) | exact HB.out)⟩
                  · replace c32 := Bool.eq_false_iff.mpr c32
                    subst c32
                    have H1 : (some false) = some r := by rw [if_neg (show ¬ (false = true) by decide)] at H; exact H
                    clear H
                    have H := H1
                    clear H1
                    exact absurd (Option.some.inj H) (by rw [hr_.out]; decide)
  · replace c5 := Bool.eq_false_iff.mpr c5
    subst c5
    have H1 : (some false) = some r := by rw [if_neg (show ¬ (false = true) by decide)] at H; exact H
    clear H
    have H := H1
    clear H1
    exact absurd (Option.some.inj H) (by rw [hr_.out]; decide)

/-- THE ONE PURE STATEMENT of halberdlaw16_HelpersOwn. -/
def halberdlaw16_HelpersOwn.Pure : Prop := ∀ (a0 : Int) (a1 : Int) (a2 : Int), ((Lit.int .i64 a0).wf = true) → ((Lit.int .i64 a1).wf = true) → ((Lit.int .u8 a2).wf = true) → ∃ k, halberdlaw16_HelpersOwn.f k a0 a1 a2 = some true

end Go.Proofs.Ytjpjcmokffjnaaa.PHelpersOwn
