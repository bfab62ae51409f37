/- Functions of the program that some laws reach, as Lean functions, and proofs that the program's calls come to what they say: written by a program, for the texts that import it; each theorem bears its own conditions. -/
import Derived.Test.YtkgmdcibjjkhlaaPXferNearx0
import Derived.Test.YtkgmdcibjjkhlaaPXferNearx7
import Derived.Test.YtkgmdcibjjkhlaaPXferNearx9
namespace Go.Proofs.Ytkgmdcibjjkhlaa.PXferNear
open Go.RowKit Go.Proofs.YtkgmdcibjjkhlaaW.PrintWords Go.Proofs.YtkgmdcibjjkhlaaW.PrintLast Go.Proofs.YtkgmdcibjjkhlaaW.PrintMore
attribute [local go_sem] max2_int min2_int max_two min_two max_three min_three max_four min_four   -- for this text's walks alone
set_option linter.unusedVariables false
set_option linter.unusedSimpArgs false

/-! ### halberdlaw08_alive: function 6 -/
open Go.Proofs.Hp Go.Proofs.Ev
def halberdlaw08_alive.f (k : Nat) : Option Bool := (halberdref07_Refine.f k 0 18446744073709551615 0 3 (-9223372036854775808) 9223372036854775807).bind fun x => (halberdref07_Const.f 4).bind fun m => (xfer_Do.f k 0 true x.1 x.2.1 x.2.2.1 x.2.2.2.1 x.2.2.2.2.1 x.2.2.2.2.2.1 m.1 m.2.1 m.2.2.1 m.2.2.2.1 m.2.2.2.2.1 m.2.2.2.2.2).bind fun a => halberdref07_All.f.bind fun l => (halberdref07_Const.f 7).bind fun n => (xfer_Do.f k 80 true l.1 l.2.1 l.2.2.1 l.2.2.2.1 l.2.2.2.2.1 l.2.2.2.2.2 n.1 n.2.1 n.2.2.1 n.2.2.2.1 n.2.2.2.2.1 n.2.2.2.2.2).bind fun b => (halberdref07_Const.f 5).bind fun o => (xfer_Do.f k 144 true l.1 l.2.1 l.2.2.1 l.2.2.2.1 l.2.2.2.2.1 l.2.2.2.2.2 o.1 o.2.1 o.2.2.1 o.2.2.2.1 o.2.2.2.2.1 o.2.2.2.2.2).bind fun c => if a.2.2.2.2.2.2 = true ∧ a.2.2.1 = 4 ∧ a.2.2.2.1 = 7 ∧ b.2.2.2.1 = 7 ∧ b.2.2.1 = 0 ∧ c.2.2.2.1 = 4 then some true else none
theorem halberdlaw08_alive.mono : ∀ k, LeO (halberdlaw08_alive.f k) (halberdlaw08_alive.f (k + 1)) := by
  intro k
  unfold halberdlaw08_alive.f
  exact LeO.bind (halberdref07_Refine.mono _ _ _ _ _ _ k) (fun x => LeO.bind (LeO.refl _) (fun m => LeO.bind (xfer_Do.mono _ _ _ _ _ _ _ _ _ _ _ _ _ _ k) (fun a => LeO.bind (LeO.refl _) (fun l => LeO.bind (LeO.refl _) (fun n => LeO.bind (xfer_Do.mono _ _ _ _ _ _ _ _ _ _ _ _ _ _ k) (fun b => LeO.bind (LeO.refl _) (fun o => LeO.bind (xfer_Do.mono _ _ _ _ _ _ _ _ _ _ _ _ _ _ k) (fun c => LeO.refl _))))))))
set_option maxHeartbeats 8000000 in
set_option maxRecDepth 100000 in
theorem halberdlaw08_alive.calls (k : Nat) (r : Bool) (w : World) (h : halberdlaw08_alive.f k = some r) :
    Calls Try.prog 6 #[] w fun e w' => e = .returned (.bool r) ∧ Below w.heap.size w w' := by
  have hun := Try.underlying26
  have huu := Try.underlying22
  have HO := Aside0.mk (Own.refl w)
  unfold halberdlaw08_alive.f at h
  obtain ⟨⟨x0, x1, x2, x3, x4, x5, xb⟩, h0, h_⟩ := Option.bind_eq_some_iff.mp h
  clear h
  have h := h_
  clear h_
  have HX := Aside0.mk h0
  clear h0
  obtain ⟨⟨m0, m1, m2, m3, m4, m5⟩, h0, h_⟩ := Option.bind_eq_some_iff.mp h
  clear h
  have h := h_
  clear h_
  have HM := Aside0.mk h0
  clear h0
  obtain ⟨⟨p0, p1, p2, p3, p4, p5, ab⟩, h0, h_⟩ := Option.bind_eq_some_iff.mp h
  clear h
  have h := h_
  clear h_
  have HA := Aside0.mk h0
  clear h0
  obtain ⟨⟨l0, l1, l2, l3, l4, l5⟩, h0, h_⟩ := Option.bind_eq_some_iff.mp h
  clear h
  have h := h_
  clear h_
  have HL := Aside0.mk h0
  clear h0
  obtain ⟨⟨n0, n1, n2, n3, n4, n5⟩, h0, h_⟩ := Option.bind_eq_some_iff.mp h
  clear h
  have h := h_
  clear h_
  have HN := Aside0.mk h0
  clear h0
  obtain ⟨⟨s0, s1, s2, s3, s4, s5, bb⟩, h0, h_⟩ := Option.bind_eq_some_iff.mp h
  clear h
  have h := h_
  clear h_
  have HB := Aside0.mk h0
  clear h0
  obtain ⟨⟨o0, o1, o2, o3, o4, o5⟩, h0, h_⟩ := Option.bind_eq_some_iff.mp h
  clear h
  have h := h_
  clear h_
  have HP := Aside0.mk h0
  clear h0
  obtain ⟨⟨t0, t1, t2, t3, t4, t5, cb⟩, h0, h_⟩ := Option.bind_eq_some_iff.mp h
  clear h
  have h := h_
  clear h_
  have HC := Aside0.mk h0
  clear h0
  dsimp only at h HA HB HC
  obtain ⟨⟨rfl, rfl, rfl, rfl, rfl, rfl⟩, h_⟩ := Option.ite_none_right_eq_some.mp h
  obtain rfl := Option.some.inj h_
  clear h h_
  go_enter Try.func6, Try.ntmps6
  go_wp2_with (first | ((with_reducible refine gate_callee (f := 12) rfl ?_); (with_reducible refine gate_dst (N := 12) rfl ?_); refine goesL_ (some 12) rfl rfl Try.func12 (by kernel_rfl) rfl #[.agg #[.int .u64 0, .int .u64 18446744073709551615, .int .u64 0, .int .u64 3, .int .i64 (-9223372036854775808), .int .i64 9223372036854775807]] rfl (by (try simp only [List.map_toArray, List.map_cons, List.map_nil]); first | done | rfl) ?_; (with_reducible refine (halberdref07_Refine.calls k 0 18446744073709551615 0 3 (-9223372036854775808) 9223372036854775807 x0 x1 x2 x3 x4 x5 xb _ HX.out).mono ?_); rintro e wx ⟨rfl, hb⟩; refine ⟨_, rfl, ?_⟩; have hO_ := HO.out.below hb; clear hb; clear HO; have HO := Aside0.mk hO_; clear hO_) | ((with_reducible refine gate_dst (N := 1) rfl ?_); refine own_box HO.out ?hg (N := 1) ?hd (cs := #[.int .u64 0, .int .u64 0, .int .u64 0, .int .u64 0, .int .i64 0, .int .i64 0]) (t := 26) ?hr ?_; (case hd => rfl); (case hg => rfl); (case hr => first | (go_simp; done) | (go_simp; rfl) | kernel_rfl); intro g1 w1 hO_; clear HO; have HO := Aside0.mk hO_; clear hO_) | ((with_reducible refine gate_store (p := 1) rfl ?_); refine own_wstore HO.out rfl (ty := 26) (x := .tmp 1) (y := .tmp 13) (cs := #[.int .u64 x0, .int .u64 x1, .int .u64 x2, .int .u64 x3, .int .i64 x4, .int .i64 x5]) rfl (by rfl) (by rfl) (by (repeat (first | exact .head | apply Ext.tail))) (by kernel_rfl) (by rfl) (by kernel_rfl) ?_; intro wc hO_; clear HO; have HO := Aside0.mk hO_; clear hO_))
  refine start_ (n := 9) (S := fun W => Own w W [(g1, .cells #[.int .u64 x0, .int .u64 x1, .int .u64 x2, .int .u64 x3, .int .i64 x4, .int .i64 x5] 26 (0, 0))]) (ds := []) #[false, false, false, false, false, false, false, false, false] (by kernel_rfl) rfl rfl (Own.drew (HO.out.picks (.cons (by (repeat (first | exact .head | apply Ext.tail))) (.nil)))) (fun hHeld => ?_)
  have HO_ := Aside0.mk HO.out.drew
  clear HO
  have HO := HO_
  clear HO_
  generalize World.drew _ = wr at HO hHeld ⊢
  refine take_ (i := 0) (N := some 16) (v := .agg #[.int .u64 x0, .int .u64 x1, .int .u64 x2, .int .u64 x3, .int .i64 x4, .int .i64 x5]) (a' := ?_) (Hp.up 9 1) rfl rfl (by kernel_rfl) (fun _ _ _ h => h) (own_yieldN (by rfl) (x := .tmp 1) rfl (by rfl) (.head) (vs := [.int .u64 x0, .int .u64 x1, .int .u64 x2, .int .u64 x3, .int .i64 x4, .int .i64 x5]) (by rfl) hun (by rfl) (by kernel_rfl) rfl) hHeld ?_ ?_
  rotate_left
  · simp only [Act.put, List.setIfInBounds_toArray, List.set_cons_zero, List.set_cons_succ, i64_w, i32_w]
    rfl
  refine join_ (σ := Nat) 2 (Hp.up 9 7) (fun s_ => [(17, .agg #[.int .u64 m0, .int .u64 m1, .int .u64 m2, .int .u64 m3, .int .i64 m4, .int .i64 m5]), (18, .tuple #[.agg #[.int .u64 p0, .int .u64 p1, .int .u64 4, .int .u64 7, .int .i64 p4, .int .i64 p5], .bool true]), (15, .tuple #[.agg #[.int .u64 p0, .int .u64 p1, .int .u64 4, .int .u64 7, .int .i64 p4, .int .i64 p5], .bool true]), (19, .agg #[.int .u64 p0, .int .u64 p1, .int .u64 4, .int .u64 7, .int .i64 p4, .int .i64 p5]), (20, .bool true), (3, .pointer (some ⟨s_, 0, none⟩))]) (fun s_ w' => Own w w' ((s_, .cells #[.int .u64 0, .int .u64 0, .int .u64 0, .int .u64 0, .int .i64 0, .int .i64 0] 26 (0, 0)) :: (g1, .cells #[.int .u64 x0, .int .u64 x1, .int .u64 x2, .int .u64 x3, .int .i64 x4, .int .i64 x5] 26 (0, 0)) :: [])) ?_ ?_
  rotate_left
  · intro hCont
    refine two_ (i := 1) (j := 6) (Ni := some 17) (Nj := some 3) (Hp.up 9 2) #[true, false, false, false, false, false, true, false, false] rfl rfl rfl rfl (by kernel_rfl) (by decide) (by decide) (fun K hK => ?_) (fun K hK => ?_)
    · skip
      refine goes_ Try.func11 (by kernel_rfl) rfl #[.int .u64 4] (by rfl) rfl rfl (by (try simp only [List.map_toArray, List.map_cons, List.map_nil]); first | done | rfl) ?_
      refine (halberdref07_Const.calls 4 m0 m1 m2 m3 m4 m5 _ HM.out).mono ?_
      rintro e wx ⟨rfl, hb⟩
      refine ⟨_, rfl, ?_⟩
      have hO_ := HO.out.below hb
      clear hb
      clear HO; have HO := Aside0.mk hO_; clear hO_
      refine hK.out _ _ (HO.out.picks (.cons (by (repeat (first | exact .head | apply Ext.tail))) (.nil))) (fun hHeld => ?_)
      clear hK K
      refine norm_ (a' := ?_) ?_ ?_
      rotate_left
      · show Act.put _ (some 17) _ = _
        simp only [Act.put, List.setIfInBounds_toArray, List.set_cons_zero, List.set_cons_succ, i64_w, i32_w]
        rfl
      refine two_ (i := 2) (j := 6) (Ni := some 18) (Nj := some 3) (Hp.up 9 3) #[true, true, false, false, false, false, true, false, false] rfl rfl rfl rfl (by kernel_rfl) (by decide) (by decide) (fun K hK => ?_) (fun K hK => ?_)
      · skip
        refine goes_ Try.func7 (by kernel_rfl) rfl #[.int .u8 0, .bool true, .agg #[.int .u64 x0, .int .u64 x1, .int .u64 x2, .int .u64 x3, .int .i64 x4, .int .i64 x5], .agg #[.int .u64 m0, .int .u64 m1, .int .u64 m2, .int .u64 m3, .int .i64 m4, .int .i64 m5]] (by rfl) rfl rfl (by (try simp only [List.map_toArray, List.map_cons, List.map_nil]); first | done | rfl) ?_
        refine (xfer_Do.calls k 0 true x0 x1 x2 x3 x4 x5 m0 m1 m2 m3 m4 m5 p0 p1 4 7 p4 p5 true _ HA.out).mono ?_
        rintro e wx ⟨rfl, hb⟩
        refine ⟨_, rfl, ?_⟩
        have hO_ := HO.out.below hb
        clear hb
        clear HO; have HO := Aside0.mk hO_; clear hO_
        refine hK.out _ _ (HO.out.picks (.cons (by (repeat (first | exact .head | apply Ext.tail))) (.nil))) (fun hHeld => ?_)
        clear hK K
        refine norm_ (a' := ?_) ?_ ?_
        rotate_left
        · show Act.put _ (some 18) _ = _
          simp only [Act.put, List.setIfInBounds_toArray, List.set_cons_zero, List.set_cons_succ, i64_w, i32_w]
          rfl
        refine Hp.pu_ 3 15 (Hp.up 9 4) ?_
        refine Hp.pu_ 4 19 (Hp.up 9 5) ?_
        refine Hp.pu_ 5 20 (Hp.up 9 6) ?_
        refine one_ (i := 6) (N := some 3) (Hp.up 9 7) rfl rfl (by kernel_rfl) (by decide) (fun K hK => ?_)
        refine own_box_k HO.out (by rfl) (N := 3) rfl (cs := #[.int .u64 0, .int .u64 0, .int .u64 0, .int .u64 0, .int .i64 0, .int .i64 0]) (t := 26) (by first | (go_simp; done) | (go_simp; rfl) | kernel_rfl) ?_
        intro g3 w3 hO_
        clear HO; have HO := Aside0.mk hO_; clear hO_
        refine hK.out _ _ (HO.out.picks (.cons (by (repeat (first | exact .head | apply Ext.tail))) (.nil))) (fun hHeld => ?_)
        clear hK K
        refine norm_ (a' := ?_) ?_ ?_
        rotate_left
        · show Act.put _ (some 3) _ = _
          simp only [Act.put, List.setIfInBounds_toArray, List.set_cons_zero, List.set_cons_succ, i64_w, i32_w]
          rfl
        exact norm_ (by simp only [putAll, Act.put, List.setIfInBounds_toArray, List.set_cons_zero, List.set_cons_succ]) (hCont (g3) _ (HO.out.picks (.cons (by (repeat (first | exact .head | apply Ext.tail))) (.cons (by (repeat (first | exact .head | apply Ext.tail))) (.nil)))))
      · skip
        refine own_box_k HO.out (by rfl) (N := 3) rfl (cs := #[.int .u64 0, .int .u64 0, .int .u64 0, .int .u64 0, .int .i64 0, .int .i64 0]) (t := 26) (by first | (go_simp; done) | (go_simp; rfl) | kernel_rfl) ?_
        intro g3 w3 hO_
        clear HO; have HO := Aside0.mk hO_; clear hO_
        refine hK.out _ _ (HO.out.picks (.cons (by (repeat (first | exact .head | apply Ext.tail))) (.nil))) (fun hHeld => ?_)
        clear hK K
        refine norm_ (a' := ?_) ?_ ?_
        rotate_left
        · show Act.put _ (some 3) _ = _
          simp only [Act.put, List.setIfInBounds_toArray, List.set_cons_zero, List.set_cons_succ, i64_w, i32_w]
          rfl
        refine one_ (i := 2) (N := some 18) #[true, true, true, false, false, false, true, false, false] rfl rfl (by kernel_rfl) (by decide) (fun K hK => ?_)
        refine goes_ Try.func7 (by kernel_rfl) rfl #[.int .u8 0, .bool true, .agg #[.int .u64 x0, .int .u64 x1, .int .u64 x2, .int .u64 x3, .int .i64 x4, .int .i64 x5], .agg #[.int .u64 m0, .int .u64 m1, .int .u64 m2, .int .u64 m3, .int .i64 m4, .int .i64 m5]] (by rfl) rfl rfl (by (try simp only [List.map_toArray, List.map_cons, List.map_nil]); first | done | rfl) ?_
        refine (xfer_Do.calls k 0 true x0 x1 x2 x3 x4 x5 m0 m1 m2 m3 m4 m5 p0 p1 4 7 p4 p5 true _ HA.out).mono ?_
        rintro e wx ⟨rfl, hb⟩
        refine ⟨_, rfl, ?_⟩
        have hO_ := HO.out.below hb
        clear hb
        clear HO; have HO := Aside0.mk hO_; clear hO_
        refine hK.out _ _ (HO.out.picks (.cons (by (repeat (first | exact .head | apply Ext.tail))) (.nil))) (fun hHeld => ?_)
        clear hK K
        refine norm_ (a' := ?_) ?_ ?_
        rotate_left
        · show Act.put _ (some 18) _ = _
          simp only [Act.put, List.setIfInBounds_toArray, List.set_cons_zero, List.set_cons_succ, i64_w, i32_w]
          rfl
        refine Hp.pu_ 3 15 #[true, true, true, true, false, false, true, false, false] ?_
        refine Hp.pu_ 4 19 #[true, true, true, true, true, false, true, false, false] ?_
        refine Hp.pu_ 5 20 (Hp.up 9 7) ?_
        exact norm_ (by simp only [putAll, Act.put, List.setIfInBounds_toArray, List.set_cons_zero, List.set_cons_succ]) (hCont (g3) _ (HO.out.picks (.cons (by (repeat (first | exact .head | apply Ext.tail))) (.cons (by (repeat (first | exact .head | apply Ext.tail))) (.nil)))))
    · skip
      refine own_box_k HO.out (by rfl) (N := 3) rfl (cs := #[.int .u64 0, .int .u64 0, .int .u64 0, .int .u64 0, .int .i64 0, .int .i64 0]) (t := 26) (by first | (go_simp; done) | (go_simp; rfl) | kernel_rfl) ?_
      intro g3 w3 hO_
      clear HO; have HO := Aside0.mk hO_; clear hO_
      refine hK.out _ _ (HO.out.picks (.cons (by (repeat (first | exact .head | apply Ext.tail))) (.nil))) (fun hHeld => ?_)
      clear hK K
      refine norm_ (a' := ?_) ?_ ?_
      rotate_left
      · show Act.put _ (some 3) _ = _
        simp only [Act.put, List.setIfInBounds_toArray, List.set_cons_zero, List.set_cons_succ, i64_w, i32_w]
        rfl
      refine one_ (i := 1) (N := some 17) #[true, true, false, false, false, false, true, false, false] rfl rfl (by kernel_rfl) (by decide) (fun K hK => ?_)
      refine goes_ Try.func11 (by kernel_rfl) rfl #[.int .u64 4] (by rfl) rfl rfl (by (try simp only [List.map_toArray, List.map_cons, List.map_nil]); first | done | rfl) ?_
      refine (halberdref07_Const.calls 4 m0 m1 m2 m3 m4 m5 _ HM.out).mono ?_
      rintro e wx ⟨rfl, hb⟩
      refine ⟨_, rfl, ?_⟩
      have hO_ := HO.out.below hb
      clear hb
      clear HO; have HO := Aside0.mk hO_; clear hO_
      refine hK.out _ _ (HO.out.picks (.cons (by (repeat (first | exact .head | apply Ext.tail))) (.nil))) (fun hHeld => ?_)
      clear hK K
      refine norm_ (a' := ?_) ?_ ?_
      rotate_left
      · show Act.put _ (some 17) _ = _
        simp only [Act.put, List.setIfInBounds_toArray, List.set_cons_zero, List.set_cons_succ, i64_w, i32_w]
        rfl
      refine one_ (i := 2) (N := some 18) #[true, true, true, false, false, false, true, false, false] rfl rfl (by kernel_rfl) (by decide) (fun K hK => ?_)
      refine goes_ Try.func7 (by kernel_rfl) rfl #[.int .u8 0, .bool true, .agg #[.int .u64 x0, .int .u64 x1, .int .u64 x2, .int .u64 x3, .int .i64 x4, .int .i64 x5], .agg #[.int .u64 m0, .int .u64 m1, .int .u64 m2, .int .u64 m3, .int .i64 m4, .int .i64 m5]] (by rfl) rfl rfl (by (try simp only [List.map_toArray, List.map_cons, List.map_nil]); first | done | rfl) ?_
      refine (xfer_Do.calls k 0 true x0 x1 x2 x3 x4 x5 m0 m1 m2 m3 m4 m5 p0 p1 4 7 p4 p5 true _ HA.out).mono ?_
      rintro e wx ⟨rfl, hb⟩
      refine ⟨_, rfl, ?_⟩
      have hO_ := HO.out.below hb
      clear hb
      clear HO; have HO := Aside0.mk hO_; clear hO_
      refine hK.out _ _ (HO.out.picks (.cons (by (repeat (first | exact .head | apply Ext.tail))) (.nil))) (fun hHeld => ?_)
      clear hK K
      refine norm_ (a' := ?_) ?_ ?_
      rotate_left
      · show Act.put _ (some 18) _ = _
        simp only [Act.put, List.setIfInBounds_toArray, List.set_cons_zero, List.set_cons_succ, i64_w, i32_w]
        rfl
      refine Hp.pu_ 3 15 #[true, true, true, true, false, false, true, false, false] ?_
      refine Hp.pu_ 4 19 #[true, true, true, true, true, false, true, false, false] ?_
      refine Hp.pu_ 5 20 (Hp.up 9 7) ?_
      exact norm_ (by simp only [putAll, Act.put, List.setIfInBounds_toArray, List.set_cons_zero, List.set_cons_succ]) (hCont (g3) _ (HO.out.picks (.cons (by (repeat (first | exact .head | apply Ext.tail))) (.cons (by (repeat (first | exact .head | apply Ext.tail))) (.nil)))))
  rintro g3 wj hO_
  clear HO
  have HO := Aside0.mk hO_
  have hHeld := HO.out.picks (.cons (by (repeat (first | exact .head | apply Ext.tail))) (.nil))
  clear hO_
  refine norm_ (a' := ?_) ?_ ?_
  rotate_left
  · simp only [putAll, Act.put, List.setIfInBounds_toArray, List.set_cons_zero, List.set_cons_succ]
    rfl
  refine one_ (i := 7) (N := none) (Hp.up 9 8) rfl rfl (by kernel_rfl) (by decide) (fun K hK => ?_)
  refine own_storeN_k HO.out (by rfl) rfl (ty := 26) (x := .tmp 3) (y := .tmp 19) (vs := #[.int .u64 p0, .int .u64 p1, .int .u64 4, .int .u64 7, .int .i64 p4, .int .i64 p5]) (cs' := #[.int .u64 p0, .int .u64 p1, .int .u64 4, .int .u64 7, .int .i64 p4, .int .i64 p5]) rfl (by rfl) (by rfl) (by (repeat (first | exact .head | apply Ext.tail))) (by kernel_rfl) (by kernel_rfl) (by first | decide | (simp; done)) (by rfl) ?_
  intro wc hO_
  clear HO; have HO := Aside0.mk hO_; clear hO_
  refine hK.out _ _ (HO.out.picks (.cons (by (repeat (first | exact .head | apply Ext.tail))) (.nil))) (fun hHeld => ?_)
  clear hK K
  refine Hp.pu_ 8 4 (Hp.up 9 9) ?_
  refine done_ (by kernel_rfl) ?_
  clear hHeld
  go_wp2_with (first | ((with_reducible refine gate_callee (f := 13) rfl ?_); (with_reducible refine gate_dst (N := 22) rfl ?_); refine goesL_ (some 22) rfl rfl Try.func13 (by kernel_rfl) rfl #[] rfl (by (try simp only [List.map_toArray, List.map_cons, List.map_nil]); first | done | rfl) ?_; (with_reducible refine (halberdref07_All.calls l0 l1 l2 l3 l4 l5 _ HL.out).mono ?_); rintro e wx ⟨rfl, hb⟩; refine ⟨_, rfl, ?_⟩; have hO_ := HO.out.below hb; clear hb; clear HO; have HO := Aside0.mk hO_; clear hO_) | ((with_reducible refine gate_callee (f := 11) rfl ?_); (with_reducible refine gate_dst (N := 23) rfl ?_); refine goesL_ (some 23) rfl rfl Try.func11 (by kernel_rfl) rfl #[.int .u64 7] rfl (by (try simp only [List.map_toArray, List.map_cons, List.map_nil]); first | done | rfl) ?_; (with_reducible refine (halberdref07_Const.calls 7 n0 n1 n2 n3 n4 n5 _ HN.out).mono ?_); rintro e wx ⟨rfl, hb⟩; refine ⟨_, rfl, ?_⟩; have hO_ := HO.out.below hb; clear hb; clear HO; have HO := Aside0.mk hO_; clear hO_) | ((with_reducible refine gate_callee (f := 7) rfl ?_); (with_reducible refine gate_dst (N := 24) rfl ?_); refine goesL_ (some 24) rfl rfl Try.func7 (by kernel_rfl) rfl #[.int .u8 80, .bool true, .agg #[.int .u64 l0, .int .u64 l1, .int .u64 l2, .int .u64 l3, .int .i64 l4, .int .i64 l5], .agg #[.int .u64 n0, .int .u64 n1, .int .u64 n2, .int .u64 n3, .int .i64 n4, .int .i64 n5]] rfl (by (try simp only [List.map_toArray, List.map_cons, List.map_nil]); first | done | rfl) ?_; (with_reducible refine (xfer_Do.calls k 80 true l0 l1 l2 l3 l4 l5 n0 n1 n2 n3 n4 n5 s0 s1 0 7 s4 s5 bb _ HB.out).mono ?_); rintro e wx ⟨rfl, hb⟩; refine ⟨_, rfl, ?_⟩; have hO_ := HO.out.below hb; clear hb; clear HO; have HO := Aside0.mk hO_; clear hO_) | ((with_reducible refine gate_dst (N := 5) rfl ?_); refine own_box HO.out ?hg (N := 5) ?hd (cs := #[.int .u64 0, .int .u64 0, .int .u64 0, .int .u64 0, .int .i64 0, .int .i64 0]) (t := 26) ?hr ?_; (case hd => rfl); (case hg => rfl); (case hr => first | (go_simp; done) | (go_simp; rfl) | kernel_rfl); intro g5 w5 hO_; clear HO; have HO := Aside0.mk hO_; clear hO_) | ((with_reducible refine gate_store (p := 5) rfl ?_); refine own_wstore HO.out rfl (ty := 26) (x := .tmp 5) (y := .tmp 25) (cs := #[.int .u64 s0, .int .u64 s1, .int .u64 0, .int .u64 7, .int .i64 s4, .int .i64 s5]) rfl (by rfl) (by rfl) (by (repeat (first | exact .head | apply Ext.tail))) (by kernel_rfl) (by rfl) (by kernel_rfl) ?_; intro wc hO_; clear HO; have HO := Aside0.mk hO_; clear hO_) | ((with_reducible refine gate_callee (f := 13) rfl ?_); (with_reducible refine gate_dst (N := 28) rfl ?_); refine goesL_ (some 28) rfl rfl Try.func13 (by kernel_rfl) rfl #[] rfl (by (try simp only [List.map_toArray, List.map_cons, List.map_nil]); first | done | rfl) ?_; (with_reducible refine (halberdref07_All.calls l0 l1 l2 l3 l4 l5 _ HL.out).mono ?_); rintro e wx ⟨rfl, hb⟩; refine ⟨_, rfl, ?_⟩; have hO_ := HO.out.below hb; clear hb; clear HO; have HO := Aside0.mk hO_; clear hO_) | ((with_reducible refine gate_callee (f := 11) rfl ?_); (with_reducible refine gate_dst (N := 29) rfl ?_); refine goesL_ (some 29) rfl rfl Try.func11 (by kernel_rfl) rfl #[.int .u64 5] rfl (by (try simp only [List.map_toArray, List.map_cons, List.map_nil]); first | done | rfl) ?_; (with_reducible refine (halberdref07_Const.calls 5 o0 o1 o2 o3 o4 o5 _ HP.out).mono ?_); rintro e wx ⟨rfl, hb⟩; refine ⟨_, rfl, ?_⟩; have hO_ := HO.out.below hb; clear hb; clear HO; have HO := Aside0.mk hO_; clear hO_) | ((with_reducible refine gate_callee (f := 7) rfl ?_); (with_reducible refine gate_dst (N := 30) rfl ?_); refine goesL_ (some 30) rfl rfl Try.func7 (by kernel_rfl) rfl #[.int .u8 144, .bool true, .agg #[.int .u64 l0, .int .u64 l1, .int .u64 l2, .int .u64 l3, .int .i64 l4, .int .i64 l5], .agg #[.int .u64 o0, .int .u64 o1, .int .u64 o2, .int .u64 o3, .int .i64 o4, .int .i64 o5]] rfl (by (try simp only [List.map_toArray, List.map_cons, List.map_nil]); first | done | rfl) ?_; (with_reducible refine (xfer_Do.calls k 144 true l0 l1 l2 l3 l4 l5 o0 o1 o2 o3 o4 o5 t0 t1 t2 4 t4 t5 cb _ HC.out).mono ?_); rintro e wx ⟨rfl, hb⟩; refine ⟨_, rfl, ?_⟩; have hO_ := HO.out.below hb; clear hb; clear HO; have HO := Aside0.mk hO_; clear hO_) | ((with_reducible refine gate_dst (N := 7) rfl ?_); refine own_box HO.out ?hg (N := 7) ?hd (cs := #[.int .u64 0, .int .u64 0, .int .u64 0, .int .u64 0, .int .i64 0, .int .i64 0]) (t := 26) ?hr ?_; (case hd => rfl); (case hg => rfl); (case hr => first | (go_simp; done) | (go_simp; rfl) | kernel_rfl); intro g7 w7 hO_; clear HO; have HO := Aside0.mk hO_; clear hO_) | ((with_reducible refine gate_store (p := 7) rfl ?_); refine own_wstore HO.out rfl (ty := 26) (x := .tmp 7) (y := .tmp 31) (cs := #[.int .u64 t0, .int .u64 t1, .int .u64 t2, .int .u64 4, .int .i64 t4, .int .i64 t5]) rfl (by rfl) (by rfl) (by (repeat (first | exact .head | apply Ext.tail))) (by kernel_rfl) (by rfl) (by kernel_rfl) ?_; intro wc hO_; clear HO; have HO := Aside0.mk hO_; clear hO_; have hk1 : World.cell? _ ⟨g3, 2, none⟩ = some (.int .u64 4) := (HO.out.cell (by (repeat (first | exact .head | apply Ext.tail))) 2).trans rfl; have hk2 : World.cell? _ ⟨g3, 3, none⟩ = some (.int .u64 7) := (HO.out.cell (by (repeat (first | exact .head | apply Ext.tail))) 3).trans rfl; have hk3 : World.cell? _ ⟨g5, 3, none⟩ = some (.int .u64 7) := (HO.out.cell (by (repeat (first | exact .head | apply Ext.tail))) 3).trans rfl; have hk4 : World.cell? _ ⟨g5, 2, none⟩ = some (.int .u64 0) := (HO.out.cell (by (repeat (first | exact .head | apply Ext.tail))) 2).trans rfl; have hk5 : World.cell? _ ⟨g7, 3, none⟩ = some (.int .u64 4) := (HO.out.cell (by (repeat (first | exact .head | apply Ext.tail))) 3).trans rfl))
  go_ret
  exact ⟨rfl, HO.out.bel⟩


/-! ### halberdref04_cut: function 24 -/
def halberdref04_cut.f (a0 : Int) (a1 : Bool) : Option (Int) := if a1 = true then (some a0) else (some (Int.tmod a0 4294967296))
set_option maxHeartbeats 8000000 in
set_option maxRecDepth 100000 in
theorem halberdref04_cut.calls (a0 : Int) (a1 : Bool) (r : Int) (w : World) (h : halberdref04_cut.f a0 a1 = some r) :
    Calls Try.prog 24 #[.int .u64 a0, .bool a1] w fun e w' => e = .returned (.int .u64 r) ∧ Drawn0 w w' := by
  have H : (if a1 = true then (some a0) else (some (Int.tmod a0 4294967296))) = some r := h
  clear h
  by_cases c3 : a1 = true
  · subst c3
    have H1 : (some a0) = some r := by rw [if_pos rfl] at H; exact H
    clear H
    have H := H1
    clear H1
    obtain rfl := Option.some.inj H
    go_enter Try.func24, Try.ntmps24
    go_wp2
    go_ret
    exact ⟨by first | rfl | (simp; done) | (simp [*]; done), by repeat (first | exact Drawn0.refl _ | apply Drawn0.step)⟩
  · replace c3 := Bool.eq_false_iff.mpr c3
    subst c3
    have H1 : (some (Int.tmod a0 4294967296)) = some r := by rw [if_neg (show ¬ (false = true) by decide)] at H; exact H
    clear H
    have H := H1
    clear H1
    obtain rfl := Option.some.inj H
    go_enter Try.func24, Try.ntmps24
    go_wp2
    go_ret
    exact ⟨by first | rfl | (simp; done) | (simp [*]; done), by repeat (first | exact Drawn0.refl _ | apply Drawn0.step)⟩

/-! ### halberdref01_Power: function 52 -/
def halberdref01_Power.l0 : Nat → Int → Int → Int → Option (Int)
  | 0, _, _, _ => none
  | k + 1, x0, x3, x4 => if x4 < x0 then (halberdref01_Power.l0 k x0 (IntKind.u64.wrap (x3 * 2)) (wrap64 (x4 + 1))) else (some x3)
def halberdref01_Power.f (k : Nat) (a0 : Int) : Option (Int) := halberdref01_Power.l0 k a0 1 0
theorem halberdref01_Power.mono_l : ∀ k, (∀ y0 y1 y2, LeO (halberdref01_Power.l0 k y0 y1 y2) (halberdref01_Power.l0 (k + 1) y0 y1 y2))
  | 0 => fun _ _ _ r h => by simp [halberdref01_Power.l0] at h
  | k + 1 => by
    have ih0 := halberdref01_Power.mono_l k
    · intro y0 y1 y2
      unfold halberdref01_Power.l0
      repeat' first
      | (with_reducible exact ih0 _ _ _)
      | (with_reducible exact LeO.refl _)
      | (with_reducible exact LeO.none _)
      | (with_reducible refine LeO.ite ?_ ?_)
      | (with_reducible refine LeO.bind ?_ (fun _ => ?_))
      | exact ih0 _ _ _
      | exact LeO.none _
      | refine LeO.ite ?_ ?_
      | refine LeO.bind ?_ (fun _ => ?_)
theorem halberdref01_Power.mono : ∀ a0 k, LeO (halberdref01_Power.f k a0) (halberdref01_Power.f (k + 1) a0) := by
  intro a0 k
  have ih0 := halberdref01_Power.mono_l k
  unfold halberdref01_Power.f
  repeat' first
      | (with_reducible exact ih0 _ _ _)
      | (with_reducible exact LeO.refl _)
      | (with_reducible exact LeO.none _)
      | (with_reducible refine LeO.ite ?_ ?_)
      | (with_reducible refine LeO.bind ?_ (fun _ => ?_))
      | exact ih0 _ _ _
      | exact LeO.none _
      | refine LeO.ite ?_ ?_
      | refine LeO.bind ?_ (fun _ => ?_)
set_option maxHeartbeats 8000000 in
set_option maxRecDepth 100000 in
theorem halberdref01_Power.calls (k : Nat) (a0 : Int) (r : Int) (w : World) (h : halberdref01_Power.f k a0 = some r) :
    Calls Try.prog 52 #[.int .i64 a0] w fun e w' => e = .returned (.int .u64 r) ∧ Drawn0 w w' := by
  have H : (halberdref01_Power.l0 k a0 1 0) = some r := h
  clear h
  have H' := Aside0.mk H
  clear H
  go_enter Try.func52, Try.ntmps52
  go_wp2
  go_loopg [3, 4] k (fun kq v3 v4 w' => ∃ (x3_1 : Int) (x4_1 : Int), v3 = .int .u64 x3_1 ∧ v4 = .int .i64 x4_1 ∧ Aside0 (halberdref01_Power.l0 kq a0 x3_1 x4_1 = some r) ∧ Aside0 (kq ≤ k) ∧ Drawn0 w w')
  case atStart => exact ⟨(1), (0), (by first | rfl | (simp; done) | (simp [*]; done)), (by first | rfl | (simp; done) | (simp [*]; done)), H', ⟨Nat.le_refl _⟩, by repeat (first | exact Drawn0.refl _ | apply Drawn0.step)⟩
  case round =>
    clear H'
    obtain ⟨x3_1, x4_1, rfl, rfl, HA, HK1, ⟨m1, rfl⟩⟩ := hrel
    cases gk with
    | zero => exact absurd HA.out (by simp [halberdref01_Power.l0])
    | succ k1 =>
      have H := HA.out
      clear HA
      simp only [halberdref01_Power.l0] at H
      by_cases c2 : x4_1 < a0
      · rw [if_pos c2] at H
        have c2b0 : decide (x4_1 < a0) = true := decide_eq_true c2
        clear c2
        have H' := Aside0.mk H
        clear H
        go_wp2
        go_roundg k1
        case measure => have := HK1.out; omega
        case rel => exact ⟨(IntKind.u64.wrap (x3_1 * 2)), (wrap64 (x4_1 + 1)), (by first | rfl | (simp; done) | (simp [*]; done)), (by first | rfl | (simp; done) | (simp [*]; done)), H', ⟨by have := HK1.out; omega⟩, by repeat (first | exact Drawn0.refl _ | apply Drawn0.step)⟩
      · rw [if_neg c2] at H
        have c2b0 : decide (x4_1 < a0) = false := decide_eq_false c2
        clear c2
        obtain rfl := Option.some.inj H
        go_wp2
        go_ret
        exact ⟨by first | rfl | (simp; done) | (simp [*]; done), by repeat (first | exact Drawn0.refl _ | apply Drawn0.step)⟩

/-! ### halberdref01_Size: function 89 -/
def halberdref01_Size.f (a0 : Int) : Option (Bool) := if a0 = 1 then (some true) else (if a0 = 2 then (some true) else (if a0 = 4 then (some true) else (some (a0 == 8))))
set_option maxHeartbeats 8000000 in
set_option maxRecDepth 100000 in
theorem halberdref01_Size.calls (a0 : Int) (r : Bool) (w : World) (h : halberdref01_Size.f a0 = some r) :
    Calls Try.prog 89 #[.int .i64 a0] w fun e w' => e = .returned (.bool r) ∧ Drawn0 w w' := by
  have H : (if a0 = 1 then (some true) else (if a0 = 2 then (some true) else (if a0 = 4 then (some true) else (some (a0 == 8))))) = some r := h
  clear h
  by_cases c2 : a0 = 1
  · rw [if_pos c2] at H
    have c2b0 : (a0 == 1) = true := beq_iff_eq.mpr c2
    have c2b1 : (a0 != 1) = false := bne_eq_false_iff_eq.mpr c2
    clear c2
    obtain rfl := Option.some.inj H
    go_enter Try.func89, Try.ntmps89
    go_wp2
    go_ret
    exact ⟨by first | rfl | (simp; done) | (simp [*]; done), by repeat (first | exact Drawn0.refl _ | apply Drawn0.step)⟩
  · rw [if_neg c2] at H
    have c2b0 : (a0 == 1) = false := beq_eq_false_iff_ne.mpr c2
    have c2b1 : (a0 != 1) = true := bne_iff_ne.mpr c2
    by_cases c3 : a0 = 2
    · rw [if_pos c3] at H
      have c3b0 : (a0 == 2) = true := beq_iff_eq.mpr c3
      have c3b1 : (a0 != 2) = false := bne_eq_false_iff_eq.mpr c3
      clear c3
      obtain rfl := Option.some.inj H
      go_enter Try.func89, Try.ntmps89
      go_wp2
      go_ret
      exact ⟨by first | rfl | (simp; done) | (simp [*]; done), by repeat (first | exact Drawn0.refl _ | apply Drawn0.step)⟩
    · rw [if_neg c3] at H
      have c3b0 : (a0 == 2) = false := beq_eq_false_iff_ne.mpr c3
      have c3b1 : (a0 != 2) = true := bne_iff_ne.mpr c3
      by_cases c4 : a0 = 4
      · rw [if_pos c4] at H
        have c4b0 : (a0 == 4) = true := beq_iff_eq.mpr c4
        have c4b1 : (a0 != 4) = false := bne_eq_false_iff_eq.mpr c4
        clear c4
        obtain rfl := Option.some.inj H
        go_enter Try.func89, Try.ntmps89
        go_wp2
        go_ret
        exact ⟨by first | rfl | (simp; done) | (simp [*]; done), by repeat (first | exact Drawn0.refl _ | apply Drawn0.step)⟩
      · rw [if_neg c4] at H
        have c4b0 : (a0 == 4) = false := beq_eq_false_iff_ne.mpr c4
        have c4b1 : (a0 != 4) = true := bne_iff_ne.mpr c4
        obtain rfl := Option.some.inj H
        go_enter Try.func89, Try.ntmps89
        go_wp2
        go_ret
        exact ⟨by first | rfl | (simp; done) | (simp [*]; done), by repeat (first | exact Drawn0.refl _ | apply Drawn0.step)⟩

/-! ### halberdref01_Sext: function 57 -/
def halberdref01_Sext.j0 : Nat → Int → Int → Bool → Option (Int)
  | 0, _, _, _ => none
  | k + 1, x0, x1, x12 => if x12 = true then (some x0) else ((halberdref01_Power.f k (wrap64 (8 * x1))).bind fun t258 => (if t258 = 0 then (none) else ((halberdref01_Power.f k (wrap64 ((wrap64 (8 * x1)) - 1))).bind fun t259 => (if (Int.tmod x0 t258) ≥ t259 then ((halberdref01_Power.f k (wrap64 (8 * x1))).bind fun t260 => (some (IntKind.u64.wrap ((Int.tmod x0 t258) - t260)))) else (some (Int.tmod x0 t258))))))
def halberdref01_Sext.f (k : Nat) (a0 : Int) (a1 : Int) : Option (Int) := (halberdref01_Size.f a1).bind fun t257 => (if t257 = true then (halberdref01_Sext.j0 k a0 a1 (a1 == 8)) else (halberdref01_Sext.j0 k a0 a1 true))
theorem halberdref01_Sext.mono_l : ∀ k, (∀ y0 y1 y2, LeO (halberdref01_Sext.j0 k y0 y1 y2) (halberdref01_Sext.j0 (k + 1) y0 y1 y2))
  | 0 => fun _ _ _ r h => by simp [halberdref01_Sext.j0] at h
  | k + 1 => by
    have ih0 := halberdref01_Sext.mono_l k
    · intro y0 y1 y2
      unfold halberdref01_Sext.j0
      repeat' first
      | (with_reducible exact ih0 _ _ _)
      | (with_reducible exact halberdref01_Power.mono _ _)
      | (with_reducible exact LeO.refl _)
      | (with_reducible exact LeO.none _)
      | (with_reducible refine LeO.ite ?_ ?_)
      | (with_reducible refine LeO.bind ?_ (fun _ => ?_))
      | exact ih0 _ _ _
      | exact halberdref01_Power.mono _ _
      | exact LeO.none _
      | refine LeO.ite ?_ ?_
      | refine LeO.bind ?_ (fun _ => ?_)
theorem halberdref01_Sext.mono : ∀ a0 a1 k, LeO (halberdref01_Sext.f k a0 a1) (halberdref01_Sext.f (k + 1) a0 a1) := by
  intro a0 a1 k
  have ih0 := halberdref01_Sext.mono_l k
  unfold halberdref01_Sext.f
  repeat' first
      | (with_reducible exact ih0 _ _ _)
      | (with_reducible exact halberdref01_Power.mono _ _)
      | (with_reducible exact LeO.refl _)
      | (with_reducible exact LeO.none _)
      | (with_reducible refine LeO.ite ?_ ?_)
      | (with_reducible refine LeO.bind ?_ (fun _ => ?_))
      | exact ih0 _ _ _
      | exact halberdref01_Power.mono _ _
      | exact LeO.none _
      | refine LeO.ite ?_ ?_
      | refine LeO.bind ?_ (fun _ => ?_)
set_option maxHeartbeats 8000000 in
set_option maxRecDepth 100000 in
theorem halberdref01_Sext.calls (k : Nat) (a0 : Int) (a1 : Int) (r : Int) (w : World) (h : halberdref01_Sext.f k a0 a1 = some r) :
    Calls Try.prog 57 #[.int .u64 a0, .int .i64 a1] w fun e w' => e = .returned (.int .u64 r) ∧ Drawn0 w w' := by
  have H : ((halberdref01_Size.f a1).bind fun t257 => (if t257 = true then (halberdref01_Sext.j0 k a0 a1 (a1 == 8)) else (halberdref01_Sext.j0 k a0 a1 true))) = some r := h
  clear h
  have HC3 := Aside0.mk H
  clear H
  go_enter Try.func57, Try.ntmps57
  go_upto_region 1 with (fail)
  go_cut [12] (fun v12 wc => ∃ (kq : Nat) (x12_2 : Bool), v12 = .bool x12_2 ∧ Aside0 (halberdref01_Sext.j0 kq a0 a1 x12_2 = some r) ∧ Aside0 (kq ≤ k) ∧ Drawn0 w wc)
  case first =>
    have H := HC3.out
    clear HC3
    replace H := Option.bind_eq_some_iff.mp H
    obtain ⟨t257, A40, H⟩ := H
    replace H : (if t257 = true then (halberdref01_Sext.j0 k a0 a1 (a1 == 8)) else (halberdref01_Sext.j0 k a0 a1 true)) = some r := H
    have A4 := Aside0.mk A40
    clear A40
    by_cases c5 : t257 = true
    · subst c5
      have H1 : (halberdref01_Sext.j0 k a0 a1 (a1 == 8)) = some r := by rw [if_pos rfl] at H; exact H
      clear H
      have H := H1
      clear H1
      have H' := Aside0.mk H
      clear H
      go_wp2_with (first | ((with_reducible refine gate_callee (f := 89) rfl ?_); refine goesL_ (some 7) rfl rfl Try.func89 (by kernel_rfl) rfl #[.int .i64 a1] rfl (by (try simp only [List.map_toArray, List.map_cons, List.map_nil]); first | done | rfl | (simp only [List.length_drop, List.length_take]; rfl)) ?_; (with_reducible refine (halberdref01_Size.calls a1 true _ A4.out).mono ?_); rintro e w' ⟨rfl, ⟨nd, rfl⟩⟩; refine ⟨_, rfl, ?_⟩))
      go_meet
      case rel => exact ⟨_, ((a1 == 8)), (by first | rfl | (simp; done) | (simp [*]; done)), H', ⟨by first | omega | exact Nat.le_refl _⟩, by repeat (first | exact Drawn0.refl _ | apply Drawn0.step)⟩
    · replace c5 := Bool.eq_false_iff.mpr c5
      subst c5
      have H1 : (halberdref01_Sext.j0 k a0 a1 true) = some r := by rw [if_neg (show ¬ (false = true) by decide)] at H; exact H
      clear H
      have H := H1
      clear H1
      have H' := Aside0.mk H
      clear H
      go_wp2_with (first | ((with_reducible refine gate_callee (f := 89) rfl ?_); refine goesL_ (some 7) rfl rfl Try.func89 (by kernel_rfl) rfl #[.int .i64 a1] rfl (by (try simp only [List.map_toArray, List.map_cons, List.map_nil]); first | done | rfl | (simp only [List.length_drop, List.length_take]; rfl)) ?_; (with_reducible refine (halberdref01_Size.calls a1 false _ A4.out).mono ?_); rintro e w' ⟨rfl, ⟨nd, rfl⟩⟩; refine ⟨_, rfl, ?_⟩))
      go_meet
      case rel => exact ⟨_, (true), (by first | rfl | (simp; done) | (simp [*]; done)), H', ⟨by first | omega | exact Nat.le_refl _⟩, by repeat (first | exact Drawn0.refl _ | apply Drawn0.step)⟩
  case rest =>
    clear HC3
    try clear p2
    try clear c5
    obtain ⟨kq, x12_2, rfl, HA, HJ2, ⟨mc2, rfl⟩⟩ := hcut
    cases kq with
    | zero => exact absurd HA.out (by simp [halberdref01_Sext.j0])
    | succ kj2 =>
      have H := HA.out
      clear HA
      simp only [halberdref01_Sext.j0] at H
      by_cases c6 : x12_2 = true
      · subst c6
        have H1 : (some a0) = some r := by rw [if_pos rfl] at H; exact H
        clear H
        have H := H1
        clear H1
        obtain rfl := Option.some.inj H
        go_wp2
        go_ret
        exact ⟨by first | rfl | (simp; done) | (simp [*]; done), by repeat (first | exact Drawn0.refl _ | apply Drawn0.step)⟩
      · replace c6 := Bool.eq_false_iff.mpr c6
        subst c6
        have H1 : ((halberdref01_Power.f kj2 (wrap64 (8 * a1))).bind fun t258 => (if t258 = 0 then (none) else ((halberdref01_Power.f kj2 (wrap64 ((wrap64 (8 * a1)) - 1))).bind fun t259 => (if (Int.tmod a0 t258) ≥ t259 then ((halberdref01_Power.f kj2 (wrap64 (8 * a1))).bind fun t260 => (some (IntKind.u64.wrap ((Int.tmod a0 t258) - t260)))) else (some (Int.tmod a0 t258)))))) = some r := by rw [if_neg (show ¬ (false = true) by decide)] at H; exact H
        clear H
        have H := H1
        clear H1
        replace H := Option.bind_eq_some_iff.mp H
        obtain ⟨t258, A70, H⟩ := H
        replace H : (if t258 = 0 then (none) else ((halberdref01_Power.f kj2 (wrap64 ((wrap64 (8 * a1)) - 1))).bind fun t259 => (if (Int.tmod a0 t258) ≥ t259 then ((halberdref01_Power.f kj2 (wrap64 (8 * a1))).bind fun t260 => (some (IntKind.u64.wrap ((Int.tmod a0 t258) - t260)))) else (some (Int.tmod a0 t258))))) = some r := H
        have A7 := Aside0.mk A70
        clear A70
        by_cases c8 : t258 = 0
        · rw [if_pos c8] at H
          exact absurd H (by simp)
        · rw [if_neg c8] at H
          have c8b0 : (t258 == 0) = false := beq_eq_false_iff_ne.mpr c8
          have c8b1 : (t258 != 0) = true := bne_iff_ne.mpr c8
          replace H := Option.bind_eq_some_iff.mp H
          obtain ⟨t259, A90, H⟩ := H
          replace H : (if (Int.tmod a0 t258) ≥ t259 then ((halberdref01_Power.f kj2 (wrap64 (8 * a1))).bind fun t260 => (some (IntKind.u64.wrap ((Int.tmod a0 t258) - t260)))) else (some (Int.tmod a0 t258))) = some r := H
          have A9 := Aside0.mk A90
          clear A90
          by_cases c10 : (Int.tmod a0 t258) ≥ t259
          · rw [if_pos c10] at H
            have c10b0 : decide (t259 ≤ (Int.tmod a0 t258)) = true := decide_eq_true c10
            clear c10
            replace H := Option.bind_eq_some_iff.mp H
            obtain ⟨t260, A110, H⟩ := H
            replace H : (some (IntKind.u64.wrap ((Int.tmod a0 t258) - t260))) = some r := H
            have A11 := Aside0.mk A110
            clear A110
            obtain rfl := Option.some.inj H
            go_wp2_with (first | ((with_reducible refine gate_callee (f := 52) rfl ?_); refine goesL_ (some 17) rfl rfl Try.func52 (by kernel_rfl) rfl #[.int .i64 (wrap64 (8 * a1))] rfl (by (try simp only [List.map_toArray, List.map_cons, List.map_nil]); first | done | rfl | (simp only [List.length_drop, List.length_take]; rfl)) ?_; (with_reducible refine (halberdref01_Power.calls kj2 (wrap64 (8 * a1)) t258 _ A7.out).mono ?_); rintro e w' ⟨rfl, ⟨nd, rfl⟩⟩; refine ⟨_, rfl, ?_⟩) | ((with_reducible refine gate_callee (f := 52) rfl ?_); refine goesL_ (some 23) rfl rfl Try.func52 (by kernel_rfl) rfl #[.int .i64 (wrap64 ((wrap64 (8 * a1)) - 1))] rfl (by (try simp only [List.map_toArray, List.map_cons, List.map_nil]); first | done | rfl | (simp only [List.length_drop, List.length_take]; rfl)) ?_; (with_reducible refine (halberdref01_Power.calls kj2 (wrap64 ((wrap64 (8 * a1)) - 1)) t259 _ A9.out).mono ?_); rintro e w' ⟨rfl, ⟨nd, rfl⟩⟩; refine ⟨_, rfl, ?_⟩) | ((with_reducible refine gate_callee (f := 52) rfl ?_); refine goesL_ (some 28) rfl rfl Try.func52 (by kernel_rfl) rfl #[.int .i64 (wrap64 (8 * a1))] rfl (by (try simp only [List.map_toArray, List.map_cons, List.map_nil]); first | done | rfl | (simp only [List.length_drop, List.length_take]; rfl)) ?_; (with_reducible refine (halberdref01_Power.calls kj2 (wrap64 (8 * a1)) t260 _ A11.out).mono ?_); rintro e w' ⟨rfl, ⟨nd, rfl⟩⟩; refine ⟨_, rfl, ?_⟩))
            go_ret
            exact ⟨by first | rfl | (simp; done) | (simp [*]; done), by repeat (first | exact Drawn0.refl _ | apply Drawn0.step)⟩
          · rw [if_neg c10] at H
            have c10b0 : decide (t259 ≤ (Int.tmod a0 t258)) = false := decide_eq_false c10
            clear c10
            obtain rfl := Option.some.inj H
            go_wp2_with (first | ((with_reducible refine gate_callee (f := 52) rfl ?_); refine goesL_ (some 17) rfl rfl Try.func52 (by kernel_rfl) rfl #[.int .i64 (wrap64 (8 * a1))] rfl (by (try simp only [List.map_toArray, List.map_cons, List.map_nil]); first | done | rfl | (simp only [List.length_drop, List.length_take]; rfl)) ?_; (with_reducible refine (halberdref01_Power.calls kj2 (wrap64 (8 * a1)) t258 _ A7.out).mono ?_); rintro e w' ⟨rfl, ⟨nd, rfl⟩⟩; refine ⟨_, rfl, ?_⟩) | ((with_reducible refine gate_callee (f := 52) rfl ?_); refine goesL_ (some 23) rfl rfl Try.func52 (by kernel_rfl) rfl #[.int .i64 (wrap64 ((wrap64 (8 * a1)) - 1))] rfl (by (try simp only [List.map_toArray, List.map_cons, List.map_nil]); first | done | rfl | (simp only [List.length_drop, List.length_take]; rfl)) ?_; (with_reducible refine (halberdref01_Power.calls kj2 (wrap64 ((wrap64 (8 * a1)) - 1)) t259 _ A9.out).mono ?_); rintro e w' ⟨rfl, ⟨nd, rfl⟩⟩; refine ⟨_, rfl, ?_⟩))
            go_ret
            exact ⟨by first | rfl | (simp; done) | (simp [*]; done), by repeat (first | exact Drawn0.refl _ | apply Drawn0.step)⟩

/-! ### halberdref04_Signed: function 25 -/
def halberdref04_Signed.f (k : Nat) (a0 : Int) (a1 : Bool) : Option (Int) := if a1 = true then (some (wrap64 (a0))) else ((halberdref01_Sext.f k a0 4).bind fun t261 => (some (wrap64 (t261))))
theorem halberdref04_Signed.mono : ∀ a0 a1 k, LeO (halberdref04_Signed.f k a0 a1) (halberdref04_Signed.f (k + 1) a0 a1) := by
  intro a0 a1 k
  unfold halberdref04_Signed.f
  repeat' first
      | (with_reducible exact halberdref01_Sext.mono _ _ _)
      | (with_reducible exact LeO.refl _)
      | (with_reducible exact LeO.none _)
      | (with_reducible refine LeO.ite ?_ ?_)
      | (with_reducible refine LeO.bind ?_ (fun _ => ?_))
      | exact halberdref01_Sext.mono _ _ _
      | exact LeO.none _
      | refine LeO.ite ?_ ?_
      | refine LeO.bind ?_ (fun _ => ?_)
set_option maxHeartbeats 8000000 in
set_option maxRecDepth 100000 in
theorem halberdref04_Signed.calls (k : Nat) (a0 : Int) (a1 : Bool) (r : Int) (w : World) (h : halberdref04_Signed.f k a0 a1 = some r) :
    Calls Try.prog 25 #[.int .u64 a0, .bool a1] w fun e w' => e = .returned (.int .i64 r) ∧ Drawn0 w w' := by
  have H : (if a1 = true then (some (wrap64 (a0))) else ((halberdref01_Sext.f k a0 4).bind fun t261 => (some (wrap64 (t261))))) = some r := h
  clear h
  by_cases c3 : a1 = true
  · subst c3
    have H1 : (some (wrap64 (a0))) = some r := by rw [if_pos rfl] at H; exact H
    clear H
    have H := H1
    clear H1
    obtain rfl := Option.some.inj H
    go_enter Try.func25, Try.ntmps25
    go_wp2
    go_ret
    exact ⟨by first | rfl | (simp; done) | (simp [*]; done), by repeat (first | exact Drawn0.refl _ | apply Drawn0.step)⟩
  · replace c3 := Bool.eq_false_iff.mpr c3
    subst c3
    have H1 : ((halberdref01_Sext.f k a0 4).bind fun t261 => (some (wrap64 (t261)))) = some r := by rw [if_neg (show ¬ (false = true) by decide)] at H; exact H
    clear H
    have H := H1
    clear H1
    replace H := Option.bind_eq_some_iff.mp H
    obtain ⟨t261, A40, H⟩ := H
    replace H : (some (wrap64 (t261))) = some r := H
    have A4 := Aside0.mk A40
    clear A40
    obtain rfl := Option.some.inj H
    go_enter Try.func25, Try.ntmps25
    go_wp2_with (first | ((with_reducible refine gate_callee (f := 57) rfl ?_); refine goesL_ (some 9) rfl rfl Try.func57 (by kernel_rfl) rfl #[.int .u64 a0, .int .i64 4] rfl (by (try simp only [List.map_toArray, List.map_cons, List.map_nil]); first | done | rfl | (simp only [List.length_drop, List.length_take]; rfl)) ?_; (with_reducible refine (halberdref01_Sext.calls k a0 4 t261 _ A4.out).mono ?_); rintro e w' ⟨rfl, ⟨nd, rfl⟩⟩; refine ⟨_, rfl, ?_⟩))
    go_ret
    exact ⟨by first | rfl | (simp; done) | (simp [*]; done), by repeat (first | exact Drawn0.refl _ | apply Drawn0.step)⟩

end Go.Proofs.Ytkgmdcibjjkhlaa.PXferNear
