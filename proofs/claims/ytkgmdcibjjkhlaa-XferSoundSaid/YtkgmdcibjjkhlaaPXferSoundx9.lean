/- Functions of the program that some laws reach, as Lean functions, and proofs that the program's calls come to what they say: written by a program, for the texts that import it; each theorem bears its own conditions. -/
import Derived.Test.YtkgmdcibjjkhlaaPXferSoundx0
import Derived.Test.YtkgmdcibjjkhlaaPXferSoundx6
import Derived.Test.YtkgmdcibjjkhlaaPXferSoundx8
namespace Go.Proofs.Ytkgmdcibjjkhlaa.PXferSound
open Go.RowKit Go.Proofs.YtkgmdcibjjkhlaaW.PrintWords Go.Proofs.YtkgmdcibjjkhlaaW.PrintLast Go.Proofs.YtkgmdcibjjkhlaaW.PrintMore
attribute [local go_sem] max2_int min2_int max_two min_two max_three min_three max_four min_four   -- for this text's walks alone
set_option linter.unusedVariables false
set_option linter.unusedSimpArgs false

/-! ### halberdlaw08_alive: function 6 -/
open Go.Proofs.Hp Go.Proofs.Ev
def halberdlaw08_alive.f (k : Nat) : Option Bool := (halberdref07_Refine.f k 0 18446744073709551615 0 3 (-9223372036854775808) 9223372036854775807).bind fun x => (halberdref07_Const.f 4).bind fun m => (xfer_Do.f k 0 true x.1 x.2.1 x.2.2.1 x.2.2.2.1 x.2.2.2.2.1 x.2.2.2.2.2.1 m.1 m.2.1 m.2.2.1 m.2.2.2.1 m.2.2.2.2.1 m.2.2.2.2.2).bind fun a => halberdref07_All.f.bind fun l => (halberdref07_Const.f 7).bind fun n => (xfer_Do.f k 80 true l.1 l.2.1 l.2.2.1 l.2.2.2.1 l.2.2.2.2.1 l.2.2.2.2.2 n.1 n.2.1 n.2.2.1 n.2.2.2.1 n.2.2.2.2.1 n.2.2.2.2.2).bind fun b => (halberdref07_Const.f 5).bind fun o => (xfer_Do.f k 144 true l.1 l.2.1 l.2.2.1 l.2.2.2.1 l.2.2.2.2.1 l.2.2.2.2.2 o.1 o.2.1 o.2.2.1 o.2.2.2.1 o.2.2.2.2.1 o.2.2.2.2.2).bind fun c => if a.2.2.2.2.2.2 = true ∧ a.2.2.1 = 4 ∧ a.2.2.2.1 = 7 ∧ b.2.2.2.1 = 7 ∧ b.2.2.1 = 0 ∧ c.2.2.2.1 = 4 then some true else none
theorem halberdlaw08_alive.mono : ∀ k, LeO (halberdlaw08_alive.f k) (halberdlaw08_alive.f (k + 1)) := by
 intro k
 unfold halberdlaw08_alive.f
 exact LeO.bind (halberdref07_Refine.mono _ _ _ _ _ _ k) (fun x => LeO.bind (LeO.refl _) (fun m => LeO.bind (xfer_Do.mono _ _ _ _ _ _ _ _ _ _ _ _ _ _ k) (fun a => LeO.bind (LeO.refl _) (fun l => LeO.bind (LeO.refl _) (fun n => LeO.bind (xfer_Do.mono _ _ _ _ _ _ _ _ _ _ _ _ _ _ k) (fun b => LeO.bind (LeO.refl _) (fun o => LeO.bind (xfer_Do.mono _ _ _ _ _ _ _ _ _ _ _ _ _ _ k) (fun c => LeO.refl _))))))))
set_option maxHeartbeats 8000000 in
set_option maxRecDepth 100000 in
theorem halberdlaw08_alive.calls (k : Nat) (r : Bool) (w : World) (h : halberdlaw08_alive.f k = some r) :
  Calls Try.prog 6 #[] w fun e w' => e = .returned (.bool r) ∧ Below w.heap.size w w' := by
 have hun := Try.underlying26
 have huu := Try.underlying22
 have HO := Aside0.mk (Own.refl w)
 unfold halberdlaw08_alive.f at h
 obtain ⟨⟨x0, x1, x2, x3, x4, x5, xb⟩, h0, h_⟩ := Option.bind_eq_some_iff.mp h
 clear h
 have h := h_
 clear h_
 have HX := Aside0.mk h0
 clear h0
 obtain ⟨⟨m0, m1, m2, m3, m4, m5⟩, h0, h_⟩ := Option.bind_eq_some_iff.mp h
 clear h
 have h := h_
 clear h_
 have HM := Aside0.mk h0
 clear h0
 obtain ⟨⟨p0, p1, p2, p3, p4, p5, ab⟩, h0, h_⟩ := Option.bind_eq_some_iff.mp h
 clear h
 have h := h_
 clear h_
 have HA := Aside0.mk h0
 clear h0
 obtain ⟨⟨l0, l1, l2, l3, l4, l5⟩, h0, h_⟩ := Option.bind_eq_some_iff.mp h
 clear h
 have h := h_
 clear h_
 have HL := Aside0.mk h0
 clear h0
 obtain ⟨⟨n0, n1, n2, n3, n4, n5⟩, h0, h_⟩ := Option.bind_eq_some_iff.mp h
 clear h
 have h := h_
 clear h_
 have HN := Aside0.mk h0
 clear h0
 obtain ⟨⟨s0, s1, s2, s3, s4, s5, bb⟩, h0, h_⟩ := Option.bind_eq_some_iff.mp h
 clear h
 have h := h_
 clear h_
 have HB := Aside0.mk h0
 clear h0
 obtain ⟨⟨o0, o1, o2, o3, o4, o5⟩, h0, h_⟩ := Option.bind_eq_some_iff.mp h
 clear h
 have h := h_
 clear h_
 have HP := Aside0.mk h0
 clear h0
 obtain ⟨⟨t0, t1, t2, t3, t4, t5, cb⟩, h0, h_⟩ := Option.bind_eq_some_iff.mp h
 clear h
 have h := h_
 clear h_
 have HC := Aside0.mk h0
 clear h0
 dsimp only at h HA HB HC
 obtain ⟨⟨rfl, rfl, rfl, rfl, rfl, rfl⟩, h_⟩ := Option.ite_none_right_eq_some.mp h
 obtain rfl := Option.some.inj h_
 clear h h_
 go_enter Try.func6, Try.ntmps6
 go_wp2_with (first | ((with_reducible refine gate_callee (f := 12) rfl ?_); (with_reducible refine gate_dst (N := 12) rfl ?_); refine goesL_ (some 12) rfl rfl Try.func12 (by kernel_rfl) rfl #[.agg #[.int .u64 0, .int .u64 18446744073709551615, .int .u64 0, .int .u64 3, .int .i64 (-9223372036854775808), .int .i64 9223372036854775807]] rfl (by (try simp only [List.map_toArray, List.map_cons, List.map_nil]); first | done | rfl) ?_; (with_reducible refine (halberdref07_Refine.calls k 0 18446744073709551615 0 3 (-9223372036854775808) 9223372036854775807 x0 x1 x2 x3 x4 x5 xb _ HX.out).mono ?_); rintro e wx ⟨rfl, hb⟩; refine ⟨_, rfl, ?_⟩; have hO_ := HO.out.below hb; clear hb; clear HO; have HO := Aside0.mk hO_; clear hO_) | ((with_reducible refine gate_dst (N := 1) rfl ?_); refine own_box HO.out ?hg (N := 1) ?hd (cs := #[.int .u64 0, .int .u64 0, .int .u64 0, .int .u64 0, .int .i64 0, .int .i64 0]) (t := 26) ?hr ?_; (case hd => rfl); (case hg => rfl); (case hr => first | (go_simp; done) | (go_simp; rfl) | kernel_rfl); intro g1 w1 hO_; clear HO; have HO := Aside0.mk hO_; clear hO_) | ((with_reducible refine gate_store (p := 1) rfl ?_); refine own_wstore HO.out rfl (ty := 26) (x := .tmp 1) (y := .tmp 13) (cs := #[.int .u64 x0, .int .u64 x1, .int .u64 x2, .int .u64 x3, .int .i64 x4, .int .i64 x5]) rfl (by rfl) (by rfl) (by (repeat (first | exact .head | apply Ext.tail))) (by kernel_rfl) (by rfl) (by kernel_rfl) ?_; intro wc hO_; clear HO; have HO := Aside0.mk hO_; clear hO_))
 refine start_ (n := 9) (S := fun W => Own w W [(g1, .cells #[.int .u64 x0, .int .u64 x1, .int .u64 x2, .int .u64 x3, .int .i64 x4, .int .i64 x5] 26 (0, 0))]) (ds := []) #[false, false, false, false, false, false, false, false, false] (by kernel_rfl) rfl rfl (Own.drew (HO.out.picks (.cons (by (repeat (first | exact .head | apply Ext.tail))) (.nil)))) (fun hHeld => ?_)
 have HO_ := Aside0.mk HO.out.drew
 clear HO
 have HO := HO_
 clear HO_
 generalize World.drew _ = wr at HO hHeld ⊢
 refine take_ (i := 0) (N := some 16) (v := .agg #[.int .u64 x0, .int .u64 x1, .int .u64 x2, .int .u64 x3, .int .i64 x4, .int .i64 x5]) (a' := ?_) (Hp.up 9 1) rfl rfl (by kernel_rfl) (fun _ _ _ h => h) (own_yieldN (by rfl) (x := .tmp 1) rfl (by rfl) (.head) (vs := [.int .u64 x0, .int .u64 x1, .int .u64 x2, .int .u64 x3, .int .i64 x4, .int .i64 x5]) (by rfl) hun (by rfl) (by kernel_rfl) rfl) hHeld ?_ ?_
 rotate_left
 ·simp only [Act.put, List.setIfInBounds_toArray, List.set_cons_zero, List.set_cons_succ, i64_w, i32_w]
  rfl
 refine join_ (σ := Nat) 2 (Hp.up 9 7) (fun s_ => [(17, .agg #[.int .u64 m0, .int .u64 m1, .int .u64 m2, .int .u64 m3, .int .i64 m4, .int .i64 m5]), (18, .tuple #[.agg #[.int .u64 p0, .int .u64 p1, .int .u64 4, .int .u64 7, .int .i64 p4, .int .i64 p5], .bool true]), (15, .tuple #[.agg #[.int .u64 p0, .int .u64 p1, .int .u64 4, .int .u64 7, .int .i64 p4, .int .i64 p5], .bool true]), (19, .agg #[.int .u64 p0, .int .u64 p1, .int .u64 4, .int .u64 7, .int .i64 p4, .int .i64 p5]), (20, .bool true), (3, .pointer (some ⟨s_, 0, none⟩))]) (fun s_ w' => Own w w' ((s_, .cells #[.int .u64 0, .int .u64 0, .int .u64 0, .int .u64 0, .int .i64 0, .int .i64 0] 26 (0, 0)) :: (g1, .cells #[.int .u64 x0, .int .u64 x1, .int .u64 x2, .int .u64 x3, .int .i64 x4, .int .i64 x5] 26 (0, 0)) :: [])) ?_ ?_
 rotate_left
 ·intro hCont
  refine two_ (i := 1) (j := 6) (Ni := some 17) (Nj := some 3) (Hp.up 9 2) #[true, false, false, false, false, false, true, false, false] rfl rfl rfl rfl (by kernel_rfl) (by decide) (by decide) (fun K hK => ?_) (fun K hK => ?_)
  ·skip
   refine goes_ Try.func11 (by kernel_rfl) rfl #[.int .u64 4] (by rfl) rfl rfl (by (try simp only [List.map_toArray, List.map_cons, List.map_nil]); first | done | rfl) ?_
   refine (halberdref07_Const.calls 4 m0 m1 m2 m3 m4 m5 _ HM.out).mono ?_
   rintro e wx ⟨rfl, hb⟩
   refine ⟨_, rfl, ?_⟩
   have hO_ := HO.out.below hb
   clear hb
   clear HO; have HO := Aside0.mk hO_; clear hO_
   refine hK.out _ _ (HO.out.picks (.cons (by (repeat (first | exact .head | apply Ext.tail))) (.nil))) (fun hHeld => ?_)
   clear hK K
   refine norm_ (a' := ?_) ?_ ?_
   rotate_left
   ·show Act.put _ (some 17) _ = _
    simp only [Act.put, List.setIfInBounds_toArray, List.set_cons_zero, List.set_cons_succ, i64_w, i32_w]
    rfl
   refine two_ (i := 2) (j := 6) (Ni := some 18) (Nj := some 3) (Hp.up 9 3) #[true, true, false, false, false, false, true, false, false] rfl rfl rfl rfl (by kernel_rfl) (by decide) (by decide) (fun K hK => ?_) (fun K hK => ?_)
   ·skip
    refine goes_ Try.func7 (by kernel_rfl) rfl #[.int .u8 0, .bool true, .agg #[.int .u64 x0, .int .u64 x1, .int .u64 x2, .int .u64 x3, .int .i64 x4, .int .i64 x5], .agg #[.int .u64 m0, .int .u64 m1, .int .u64 m2, .int .u64 m3, .int .i64 m4, .int .i64 m5]] (by rfl) rfl rfl (by (try simp only [List.map_toArray, List.map_cons, List.map_nil]); first | done | rfl) ?_
    refine (xfer_Do.calls k 0 true x0 x1 x2 x3 x4 x5 m0 m1 m2 m3 m4 m5 p0 p1 4 7 p4 p5 true _ HA.out).mono ?_
    rintro e wx ⟨rfl, hb⟩
    refine ⟨_, rfl, ?_⟩
    have hO_ := HO.out.below hb
    clear hb
    clear HO; have HO := Aside0.mk hO_; clear hO_
    refine hK.out _ _ (HO.out.picks (.cons (by (repeat (first | exact .head | apply Ext.tail))) (.nil))) (fun hHeld => ?_)
    clear hK K
    refine norm_ (a' := ?_) ?_ ?_
    rotate_left
    ·show Act.put _ (some 18) _ = _
     simp only [Act.put, List.setIfInBounds_toArray, List.set_cons_zero, List.set_cons_succ, i64_w, i32_w]
     rfl
    refine Hp.pu_ 3 15 (Hp.up 9 4) ?_
    refine Hp.pu_ 4 19 (Hp.up 9 5) ?_
    refine Hp.pu_ 5 20 (Hp.up 9 6) ?_
    refine one_ (i := 6) (N := some 3) (Hp.up 9 7) rfl rfl (by kernel_rfl) (by decide) (fun K hK => ?_)
    refine own_box_k HO.out (by rfl) (N := 3) rfl (cs := #[.int .u64 0, .int .u64 0, .int .u64 0, .int .u64 0, .int .i64 0, .int .i64 0]) (t := 26) (by first | (go_simp; done) | (go_simp; rfl) | kernel_rfl) ?_
    intro g3 w3 hO_
    clear HO; have HO := Aside0.mk hO_; clear hO_
    refine hK.out _ _ (HO.out.picks (.cons (by (repeat (first | exact .head | apply Ext.tail))) (.nil))) (fun hHeld => ?_)
    clear hK K
    refine norm_ (a' := ?_) ?_ ?_
    rotate_left
    ·show Act.put _ (some 3) _ = _
     simp only [Act.put, List.setIfInBounds_toArray, List.set_cons_zero, List.set_cons_succ, i64_w, i32_w]
     rfl
    exact norm_ (by simp only [putAll, Act.put, List.setIfInBounds_toArray, List.set_cons_zero, List.set_cons_succ]) (hCont (g3) _ (HO.out.picks (.cons (by (repeat (first | exact .head | apply Ext.tail))) (.cons (by (repeat (first | exact .head | apply Ext.tail))) (.nil)))))
   ·skip
    refine own_box_k HO.out (by rfl) (N := 3) rfl (cs := #[.int .u64 0, .int .u64 0, .int .u64 0, .int .u64 0, .int .i64 0, .int .i64 0]) (t := 26) (by first | (go_simp; done) | (go_simp; rfl) | kernel_rfl) ?_
    intro g3 w3 hO_
    clear HO; have HO := Aside0.mk hO_; clear hO_
    refine hK.out _ _ (HO.out.picks (.cons (by (repeat (first | exact .head | apply Ext.tail))) (.nil))) (fun hHeld => ?_)
    clear hK K
    refine norm_ (a' := ?_) ?_ ?_
    rotate_left
    ·show Act.put _ (some 3) _ = _
     simp only [Act.put, List.setIfInBounds_toArray, List.set_cons_zero, List.set_cons_succ, i64_w, i32_w]
     rfl
    refine one_ (i := 2) (N := some 18) #[true, true, true, false, false, false, true, false, false] rfl rfl (by kernel_rfl) (by decide) (fun K hK => ?_)
    refine goes_ Try.func7 (by kernel_rfl) rfl #[.int .u8 0, .bool true, .agg #[.int .u64 x0, .int .u64 x1, .int .u64 x2, .int .u64 x3, .int .i64 x4, .int .i64 x5], .agg #[.int .u64 m0, .int .u64 m1, .int .u64 m2, .int .u64 m3, .int .i64 m4, .int .i64 m5]] (by rfl) rfl rfl (by (try simp only [List.map_toArray, List.map_cons, List.map_nil]); first | done | rfl) ?_
    refine (xfer_Do.calls k 0 true x0 x1 x2 x3 x4 x5 m0 m1 m2 m3 m4 m5 p0 p1 4 7 p4 p5 true _ HA.out).mono ?_
    rintro e wx ⟨rfl, hb⟩
    refine ⟨_, rfl, ?_⟩
    have hO_ := HO.out.below hb
    clear hb
    clear HO; have HO := Aside0.mk hO_; clear hO_
    refine hK.out _ _ (HO.out.picks (.cons (by (repeat (first | exact .head | apply Ext.tail))) (.nil))) (fun hHeld => ?_)
    clear hK K
    refine norm_ (a' := ?_) ?_ ?_
    rotate_left
    ·show Act.put _ (some 18) _ = _
     simp only [Act.put, List.setIfInBounds_toArray, List.set_cons_zero, List.set_cons_succ, i64_w, i32_w]
     rfl
    refine Hp.pu_ 3 15 #[true, true, true, true, false, false, true, false, false] ?_
    refine Hp.pu_ 4 19 #[true, true, true, true, true, false, true, false, false] ?_
    refine Hp.pu_ 5 20 (Hp.up 9 7) ?_
    exact norm_ (by simp only [putAll, Act.put, List.setIfInBounds_toArray, List.set_cons_zero, List.set_cons_succ]) (hCont (g3) _ (HO.out.picks (.cons (by (repeat (first | exact .head | apply Ext.tail))) (.cons (by (repeat (first | exact .head | apply Ext.tail))) (.nil)))))
  ·skip
   refine own_box_k HO.out (by rfl) (N := 3) rfl (cs := #[.int .u64 0, .int .u64 0, .int .u64 0, .int .u64 0, .int .i64 0, .int .i64 0]) (t := 26) (by first | (go_simp; done) | (go_simp; rfl) | kernel_rfl) ?_
   intro g3 w3 hO_
   clear HO; have HO := Aside0.mk hO_; clear hO_
   refine hK.out _ _ (HO.out.picks (.cons (by (repeat (first | exact .head | apply Ext.tail))) (.nil))) (fun hHeld => ?_)
   clear hK K
   refine norm_ (a' := ?_) ?_ ?_
   rotate_left
   ·show Act.put _ (some 3) _ = _
    simp only [Act.put, List.setIfInBounds_toArray, List.set_cons_zero, List.set_cons_succ, i64_w, i32_w]
    rfl
   refine one_ (i := 1) (N := some 17) #[true, true, false, false, false, false, true, false, false] rfl rfl (by kernel_rfl) (by decide) (fun K hK => ?_)
   refine goes_ Try.func11 (by kernel_rfl) rfl #[.int .u64 4] (by rfl) rfl rfl (by (try simp only [List.map_toArray, List.map_cons, List.map_nil]); first | done | rfl) ?_
   refine (halberdref07_Const.calls 4 m0 m1 m2 m3 m4 m5 _ HM.out).mono ?_
   rintro e wx ⟨rfl, hb⟩
   refine ⟨_, rfl, ?_⟩
   have hO_ := HO.out.below hb
   clear hb
   clear HO; have HO := Aside0.mk hO_; clear hO_
   refine hK.out _ _ (HO.out.picks (.cons (by (repeat (first | exact .head | apply Ext.tail))) (.nil))) (fun hHeld => ?_)
   clear hK K
   refine norm_ (a' := ?_) ?_ ?_
   rotate_left
   ·show Act.put _ (some 17) _ = _
    simp only [Act.put, List.setIfInBounds_toArray, List.set_cons_zero, List.set_cons_succ, i64_w, i32_w]
    rfl
   refine one_ (i := 2) (N := some 18) #[true, true, true, false, false, false, true, false, false] rfl rfl (by kernel_rfl) (by decide) (fun K hK => ?_)
   refine goes_ Try.func7 (by kernel_rfl) rfl #[.int .u8 0, .bool true, .agg #[.int .u64 x0, .int .u64 x1, .int .u64 x2, .int .u64 x3, .int .i64 x4, .int .i64 x5], .agg #[.int .u64 m0, .int .u64 m1, .int .u64 m2, .int .u64 m3, .int .i64 m4, .int .i64 m5]] (by rfl) rfl rfl (by (try simp only [List.map_toArray, List.map_cons, List.map_nil]); first | done | rfl) ?_
   refine (xfer_Do.calls k 0 true x0 x1 x2 x3 x4 x5 m0 m1 m2 m3 m4 m5 p0 p1 4 7 p4 p5 true _ HA.out).mono ?_
   rintro e wx ⟨rfl, hb⟩
   refine ⟨_, rfl, ?_⟩
   have hO_ := HO.out.below hb
   clear hb
   clear HO; have HO := Aside0.mk hO_; clear hO_
   refine hK.out _ _ (HO.out.picks (.cons (by (repeat (first | exact .head | apply Ext.tail))) (.nil))) (fun hHeld => ?_)
   clear hK K
   refine norm_ (a' := ?_) ?_ ?_
   rotate_left
   ·show Act.put _ (some 18) _ = _
    simp only [Act.put, List.setIfInBounds_toArray, List.set_cons_zero, List.set_cons_succ, i64_w, i32_w]
    rfl
   refine Hp.pu_ 3 15 #[true, true, true, true, false, false, true, false, false] ?_
   refine Hp.pu_ 4 19 #[true, true, true, true, true, false, true, false, false] ?_
   refine Hp.pu_ 5 20 (Hp.up 9 7) ?_
   exact norm_ (by simp only [putAll, Act.put, List.setIfInBounds_toArray, List.set_cons_zero, List.set_cons_succ]) (hCont (g3) _ (HO.out.picks (.cons (by (repeat (first | exact .head | apply Ext.tail))) (.cons (by (repeat (first | exact .head | apply Ext.tail))) (.nil)))))
 rintro g3 wj hO_
 clear HO
 have HO := Aside0.mk hO_
 have hHeld := HO.out.picks (.cons (by (repeat (first | exact .head | apply Ext.tail))) (.nil))
 clear hO_
 refine norm_ (a' := ?_) ?_ ?_
 rotate_left
 ·simp only [putAll, Act.put, List.setIfInBounds_toArray, List.set_cons_zero, List.set_cons_succ]
  rfl
 refine one_ (i := 7) (N := none) (Hp.up 9 8) rfl rfl (by kernel_rfl) (by decide) (fun K hK => ?_)
 refine own_storeN_k HO.out (by rfl) rfl (ty := 26) (x := .tmp 3) (y := .tmp 19) (vs := #[.int .u64 p0, .int .u64 p1, .int .u64 4, .int .u64 7, .int .i64 p4, .int .i64 p5]) (cs' := #[.int .u64 p0, .int .u64 p1, .int .u64 4, .int .u64 7, .int .i64 p4, .int .i64 p5]) rfl (by rfl) (by rfl) (by (repeat (first | exact .head | apply Ext.tail))) (by kernel_rfl) (by kernel_rfl) (by first | decide | (simp; done)) (by rfl) ?_
 intro wc hO_
 clear HO; have HO := Aside0.mk hO_; clear hO_
 refine hK.out _ _ (HO.out.picks (.cons (by (repeat (first | exact .head | apply Ext.tail))) (.nil))) (fun hHeld => ?_)
 clear hK K
 refine Hp.pu_ 8 4 (Hp.up 9 9) ?_
 refine done_ (by kernel_rfl) ?_
 clear hHeld
 go_wp2_with (first | ((with_reducible refine gate_callee (f := 13) rfl ?_); (with_reducible refine gate_dst (N := 22) rfl ?_); refine goesL_ (some 22) rfl rfl Try.func13 (by kernel_rfl) rfl #[] rfl (by (try simp only [List.map_toArray, List.map_cons, List.map_nil]); first | done | rfl) ?_; (with_reducible refine (halberdref07_All.calls l0 l1 l2 l3 l4 l5 _ HL.out).mono ?_); rintro e wx ⟨rfl, hb⟩; refine ⟨_, rfl, ?_⟩; have hO_ := HO.out.below hb; clear hb; clear HO; have HO := Aside0.mk hO_; clear hO_) | ((with_reducible refine gate_callee (f := 11) rfl ?_); (with_reducible refine gate_dst (N := 23) rfl ?_); refine goesL_ (some 23) rfl rfl Try.func11 (by kernel_rfl) rfl #[.int .u64 7] rfl (by (try simp only [List.map_toArray, List.map_cons, List.map_nil]); first | done | rfl) ?_; (with_reducible refine (halberdref07_Const.calls 7 n0 n1 n2 n3 n4 n5 _ HN.out).mono ?_); rintro e wx ⟨rfl, hb⟩; refine ⟨_, rfl, ?_⟩; have hO_ := HO.out.below hb; clear hb; clear HO; have HO := Aside0.mk hO_; clear hO_) | ((with_reducible refine gate_callee (f := 7) rfl ?_); (with_reducible refine gate_dst (N := 24) rfl ?_); refine goesL_ (some 24) rfl rfl Try.func7 (by kernel_rfl) rfl #[.int .u8 80, .bool true, .agg #[.int .u64 l0, .int .u64 l1, .int .u64 l2, .int .u64 l3, .int .i64 l4, .int .i64 l5], .agg #[.int .u64 n0, .int .u64 n1, .int .u64 n2, .int .u64 n3, .int .i64 n4, .int .i64 n5]] rfl (by (try simp only [List.map_toArray, List.map_cons, List.map_nil]); first | done | rfl) ?_; (with_reducible refine (xfer_Do.calls k 80 true l0 l1 l2 l3 l4 l5 n0 n1 n2 n3 n4 n5 s0 s1 0 7 s4 s5 bb _ HB.out).mono ?_); rintro e wx ⟨rfl, hb⟩; refine ⟨_, rfl, ?_⟩; have hO_ := HO.out.below hb; clear hb; clear HO; have HO := Aside0.mk hO_; clear hO_) | ((with_reducible refine gate_dst (N := 5) rfl ?_); refine own_box HO.out ?hg (N := 5) ?hd (cs := #[.int .u64 0, .int .u64 0, .int .u64 0, .int .u64 0, .int .i64 0, .int .i64 0]) (t := 26) ?hr ?_; (case hd => rfl); (case hg => rfl); (case hr => first | (go_simp; done) | (go_simp; rfl) | kernel_rfl); intro g5 w5 hO_; clear HO; have HO := Aside0.mk hO_; clear hO_) | ((with_reducible refine gate_store (p := 5) rfl ?_); refine own_wstore HO.out rfl (ty := 26) (x := .tmp 5) (y := .tmp 25) (cs := #[.int .u64 s0, .int .u64 s1, .int .u64 0, .int .u64 7, .int .i64 s4, .int .i64 s5]) rfl (by rfl) (by rfl) (by (repeat (first | exact .head | apply Ext.tail))) (by kernel_rfl) (by rfl) (by kernel_rfl) ?_; intro wc hO_; clear HO; have HO := Aside0.mk hO_; clear hO_) | ((with_reducible refine gate_callee (f := 13) rfl ?_); (with_reducible refine gate_dst (N := 28) rfl ?_); refine goesL_ (some 28) rfl rfl Try.func13 (by kernel_rfl) rfl #[] rfl (by (try simp only [List.map_toArray, List.map_cons, List.map_nil]); first | done | rfl) ?_; (with_reducible refine (halberdref07_All.calls l0 l1 l2 l3 l4 l5 _ HL.out).mono ?_); rintro e wx ⟨rfl, hb⟩; refine ⟨_, rfl, ?_⟩; have hO_ := HO.out.below hb; clear hb; clear HO; have HO := Aside0.mk hO_; clear hO_) | ((with_reducible refine gate_callee (f := 11) rfl ?_); (with_reducible refine gate_dst (N := 29) rfl ?_); refine goesL_ (some 29) rfl rfl Try.func11 (by kernel_rfl) rfl #[.int .u64 5] rfl (by (try simp only [List.map_toArray, List.map_cons, List.map_nil]); first | done | rfl) ?_; (with_reducible refine (halberdref07_Const.calls 5 o0 o1 o2 o3 o4 o5 _ HP.out).mono ?_); rintro e wx ⟨rfl, hb⟩; refine ⟨_, rfl, ?_⟩; have hO_ := HO.out.below hb; clear hb; clear HO; have HO := Aside0.mk hO_; clear hO_) | ((with_reducible refine gate_callee (f := 7) rfl ?_); (with_reducible refine gate_dst (N := 30) rfl ?_); refine goesL_ (some 30) rfl rfl Try.func7 (by kernel_rfl) rfl #[.int .u8 144, .bool true, .agg #[.int .u64 l0, .int .u64 l1, .int .u64 l2, .int .u64 l3, .int .i64 l4, .int .i64 l5], .agg #[.int .u64 o0, .int .u64 o1, .int .u64 o2, .int .u64 o3, .int .i64 o4, .int .i64 o5]] rfl (by (try simp only [List.map_toArray, List.map_cons, List.map_nil]); first | done | rfl) ?_; (with_reducible refine (xfer_Do.calls k 144 true l0 l1 l2 l3 l4 l5 o0 o1 o2 o3 o4 o5 t0 t1 t2 4 t4 t5 cb _ HC.out).mono ?_); rintro e wx ⟨rfl, hb⟩; refine ⟨_, rfl, ?_⟩; have hO_ := HO.out.below hb; clear hb; clear HO; have HO := Aside0.mk hO_; clear hO_) | ((with_reducible refine gate_dst (N := 7) rfl ?_); refine own_box HO.out ?hg (N := 7) ?hd (cs := #[.int .u64 0, .int .u64 0, .int .u64 0, .int .u64 0, .int .i64 0, .int .i64 0]) (t := 26) ?hr ?_; (case hd => rfl); (case hg => rfl); (case hr => first | (go_simp; done) | (go_simp; rfl) | kernel_rfl); intro g7 w7 hO_; clear HO; have HO := Aside0.mk hO_; clear hO_) | ((with_reducible refine gate_store (p := 7) rfl ?_); refine own_wstore HO.out rfl (ty := 26) (x := .tmp 7) (y := .tmp 31) (cs := #[.int .u64 t0, .int .u64 t1, .int .u64 t2, .int .u64 4, .int .i64 t4, .int .i64 t5]) rfl (by rfl) (by rfl) (by (repeat (first | exact .head | apply Ext.tail))) (by kernel_rfl) (by rfl) (by kernel_rfl) ?_; intro wc hO_; clear HO; have HO := Aside0.mk hO_; clear hO_; have hk1 : World.cell? _ ⟨g3, 2, none⟩ = some (.int .u64 4) := (HO.out.cell (by (repeat (first | exact .head | apply Ext.tail))) 2).trans rfl; have hk2 : World.cell? _ ⟨g3, 3, none⟩ = some (.int .u64 7) := (HO.out.cell (by (repeat (first | exact .head | apply Ext.tail))) 3).trans rfl; have hk3 : World.cell? _ ⟨g5, 3, none⟩ = some (.int .u64 7) := (HO.out.cell (by (repeat (first | exact .head | apply Ext.tail))) 3).trans rfl; have hk4 : World.cell? _ ⟨g5, 2, none⟩ = some (.int .u64 0) := (HO.out.cell (by (repeat (first | exact .head | apply Ext.tail))) 2).trans rfl; have hk5 : World.cell? _ ⟨g7, 3, none⟩ = some (.int .u64 4) := (HO.out.cell (by (repeat (first | exact .head | apply Ext.tail))) 3).trans rfl))
 go_ret
 exact ⟨rfl, HO.out.bel⟩


/-! ### halberdref06_Has: function 23 -/
def halberdref06_Has.l0 : Nat → Int → Int → Int → Int → Option (Bool)
 | 0, _, _, _, _ => none
 | k + 1, x1, x5, x258000, x258001 => if x5 < 64 then ((halberdref06_Bit.f k x258000 x258001 x5).bind fun bt258 => (if (Int.tmod x1 2) = 0 then (if bt258.1 = true then (if (Int.tmod x1 2) = 1 then (if bt258.2 = true then (halberdref06_Has.l0 k (IntKind.u64.wrap (Int.tdiv x1 2)) (wrap64 (x5 + 1)) x258000 x258001) else (some false)) else (halberdref06_Has.l0 k (IntKind.u64.wrap (Int.tdiv x1 2)) (wrap64 (x5 + 1)) x258000 x258001)) else (some false)) else (if (Int.tmod x1 2) = 1 then (if bt258.2 = true then (halberdref06_Has.l0 k (IntKind.u64.wrap (Int.tdiv x1 2)) (wrap64 (x5 + 1)) x258000 x258001) else (some false)) else (halberdref06_Has.l0 k (IntKind.u64.wrap (Int.tdiv x1 2)) (wrap64 (x5 + 1)) x258000 x258001)))) else (some true)
def halberdref06_Has.f (k : Nat) (a0_0 : Int) (a0_1 : Int) (a1 : Int) : Option (Bool) := halberdref06_Has.l0 k a1 0 a0_0 a0_1
theorem halberdref06_Has.mono_l : ∀ k, (∀ y0 y1 y2 y3, LeO (halberdref06_Has.l0 k y0 y1 y2 y3) (halberdref06_Has.l0 (k + 1) y0 y1 y2 y3))
 | 0 => fun _ _ _ _ r h => by simp [halberdref06_Has.l0] at h
 | k + 1 => by
  have ih0 := halberdref06_Has.mono_l k
  ·intro y0 y1 y2 y3
   unfold halberdref06_Has.l0
   repeat' first
   | (with_reducible exact ih0 _ _ _ _)
   | (with_reducible exact halberdref06_Bit.mono _ _ _ _)
   | (with_reducible exact LeO.refl _)
   | (with_reducible exact LeO.none _)
   | (with_reducible refine LeO.ite ?_ ?_)
   | (with_reducible refine LeO.bind ?_ (fun _ => ?_))
   | exact ih0 _ _ _ _
   | exact halberdref06_Bit.mono _ _ _ _
   | exact LeO.none _
   | refine LeO.ite ?_ ?_
   | refine LeO.bind ?_ (fun _ => ?_)
theorem halberdref06_Has.mono : ∀ a0 a1 a2 k, LeO (halberdref06_Has.f k a0 a1 a2) (halberdref06_Has.f (k + 1) a0 a1 a2) := by
 intro a0 a1 a2 k
 have ih0 := halberdref06_Has.mono_l k
 unfold halberdref06_Has.f
 repeat' first
   | (with_reducible exact ih0 _ _ _ _)
   | (with_reducible exact halberdref06_Bit.mono _ _ _ _)
   | (with_reducible exact LeO.refl _)
   | (with_reducible exact LeO.none _)
   | (with_reducible refine LeO.ite ?_ ?_)
   | (with_reducible refine LeO.bind ?_ (fun _ => ?_))
   | exact ih0 _ _ _ _
   | exact halberdref06_Bit.mono _ _ _ _
   | exact LeO.none _
   | refine LeO.ite ?_ ?_
   | refine LeO.bind ?_ (fun _ => ?_)
set_option maxHeartbeats 8000000 in
set_option maxRecDepth 100000 in
theorem halberdref06_Has.calls (k : Nat) (a0_0 : Int) (a0_1 : Int) (a1 : Int) (r : Bool) (w : World) (h : halberdref06_Has.f k a0_0 a0_1 a1 = some r) :
  Calls Try.prog 23 #[.agg #[.int .u64 a0_0, .int .u64 a0_1], .int .u64 a1] w fun e w' => e = .returned (.bool r) ∧ Below w.heap.size w w' := by
 have hu24 := Try.underlying24
 have HB := Aside0.mk (Below.refl w.heap.size w)
 have H : (halberdref06_Has.l0 k a1 0 a0_0 a0_1) = some r := h
 clear h
 have H' := Aside0.mk H
 clear H
 go_enter Try.func23, Try.ntmps23
 go_wp2_with (first | ((with_reducible refine gate_dst (N := 2) rfl ?_); refine box_event ?hg (N := 2) ?hd (cs := #[.int .u64 a0_0, .int .u64 a0_1]) (t := 24) ?hr ?_; (case hd => rfl); (case hg => rfl); (case hr => first | (go_simp; done) | (go_simp; rfl)); intro gb257 hg w3 hbox hb; have n0_ := Aside0.mk (below_step (by repeat (first | (with_reducible first | exact HB.out | apply below_alloc | apply pw_below_drewN | apply below_drew1) | exact HB.out)) hb); have n1_ := Aside0.mk (hbox); have n2_ := Aside0.mk ((by rw [hg]; exact (below_size (by repeat (first | (with_reducible first | exact HB.out | apply below_alloc | apply pw_below_drewN | apply below_drew1) | exact HB.out))) : w.heap.size ≤ gb257)); have n3_ := Aside0.mk ((by rw [hg]; exact (below_size (by repeat (first | (with_reducible first | exact HB.out | apply below_alloc | apply pw_below_drewN | apply below_drew1) | exact HB.out))) : w.heap.size ≤ gb257)); clear HB; have HB := n0_; have BK257 := n1_; have GW257 := n2_; have GE257 := n3_; clear n0_ n1_ n2_ n3_; clear hb hbox hg))
 go_loopg [1, 5] k (fun kq v1 v5 w' => ∃ (x1_1 : Int) (x5_1 : Int), v1 = .int .u64 x1_1 ∧ v5 = .int .i64 x5_1 ∧ Aside0 (halberdref06_Has.l0 kq x1_1 x5_1 a0_0 a0_1 = some r) ∧ Aside0 (kq ≤ k) ∧ Aside0 (w'.heap[gb257]? = some (.cells #[.int .u64 a0_0, .int .u64 a0_1] 24 (0, 0))) ∧ Aside0 (Below w.heap.size w w'))
 case atStart => exact ⟨(a1), (0), (by first | rfl | (simp; done) | (simp [*]; done)), (by first | rfl | (simp; done) | (simp [*]; done)), H', ⟨Nat.le_refl _⟩, ⟨by (with_reducible repeat (first | refine blk_drewN ?_ _ | refine blk_drew ?_ | refine blk_alloc ?_ _)); exact BK257.out⟩, ⟨by repeat (first | (with_reducible first | exact HB.out | apply below_alloc | apply pw_below_drewN | apply below_drew1 | refine below_set ?_ GE257.out) | exact HB.out)⟩⟩
 case round =>
  clear H'
  try clear c2
  try clear p2
  obtain ⟨x1_1, x5_1, rfl, rfl, HA, HK1, BK257, HB⟩ := hrel
  cases gk with
  | zero => exact absurd HA.out (by simp [halberdref06_Has.l0])
  | succ k1 =>
   have H := HA.out
   clear HA
   simp only [halberdref06_Has.l0] at H
   by_cases c4 : x5_1 < 64
   ·rw [if_pos c4] at H
    have c4b0 : decide (x5_1 < 64) = true := decide_eq_true c4
    clear c4
    replace H := Option.bind_eq_some_iff.mp H
    obtain ⟨⟨t258, t259⟩, A50, H⟩ := H
    replace H : (if (Int.tmod x1_1 2) = 0 then (if t258 = true then (if (Int.tmod x1_1 2) = 1 then (if t259 = true then (halberdref06_Has.l0 k1 (IntKind.u64.wrap (Int.tdiv x1_1 2)) (wrap64 (x5_1 + 1)) a0_0 a0_1) else (some false)) else (halberdref06_Has.l0 k1 (IntKind.u64.wrap (Int.tdiv x1_1 2)) (wrap64 (x5_1 + 1)) a0_0 a0_1)) else (some false)) else (if (Int.tmod x1_1 2) = 1 then (if t259 = true then (halberdref06_Has.l0 k1 (IntKind.u64.wrap (Int.tdiv x1_1 2)) (wrap64 (x5_1 + 1)) a0_0 a0_1) else (some false)) else (halberdref06_Has.l0 k1 (IntKind.u64.wrap (Int.tdiv x1_1 2)) (wrap64 (x5_1 + 1)) a0_0 a0_1))) = some r := H
    have A5 := Aside0.mk A50
    clear A50
    by_cases c6 : (Int.tmod x1_1 2) = 0
    ·rw [if_pos c6] at H
     have c6b0 : ((Int.tmod x1_1 2) == 0) = true := beq_iff_eq.mpr c6
     have c6b1 : ((Int.tmod x1_1 2) != 0) = false := bne_eq_false_iff_eq.mpr c6
     clear c6
     by_cases c7 : t258 = true
     ·subst c7
      have H1 : (if (Int.tmod x1_1 2) = 1 then (if t259 = true then (halberdref06_Has.l0 k1 (IntKind.u64.wrap (Int.tdiv x1_1 2)) (wrap64 (x5_1 + 1)) a0_0 a0_1) else (some false)) else (halberdref06_Has.l0 k1 (IntKind.u64.wrap (Int.tdiv x1_1 2)) (wrap64 (x5_1 + 1)) a0_0 a0_1)) = some r := by rw [if_pos rfl] at H; exact H
      clear H
      have H := H1
      clear H1
      by_cases c8 : (Int.tmod x1_1 2) = 1
      ·rw [if_pos c8] at H
       have c8b0 : ((Int.tmod x1_1 2) == 1) = true := beq_iff_eq.mpr c8
       have c8b1 : ((Int.tmod x1_1 2) != 1) = false := bne_eq_false_iff_eq.mpr c8
       clear c8
       by_cases c9 : t259 = true
       ·subst c9
        have H1 : (halberdref06_Has.l0 k1 (IntKind.u64.wrap (Int.tdiv x1_1 2)) (wrap64 (x5_1 + 1)) a0_0 a0_1) = some r := by rw [if_pos rfl] at H; exact H
        clear H
        have H := H1
        clear H1
        have H' := Aside0.mk H
        clear H
        have hcz10_0 : wr.cell? ⟨gb257, 0, none⟩ = some (.int .u64 a0_0) := (blk_cell BK257.out 0).trans rfl
        have hcz10_1 : wr.cell? ⟨gb257, 1, none⟩ = some (.int .u64 a0_1) := (blk_cell BK257.out 1).trans rfl
        have hfz10_0 := blk_frozen BK257.out 0
        have hfz10_1 := blk_frozen BK257.out 1
        go_wp2_with (first | ((with_reducible refine gate_callee (f := 56) rfl ?_); refine goesL_ (some 15) rfl rfl Try.func56 (by kernel_rfl) rfl #[.agg #[.int .u64 a0_0, .int .u64 a0_1], .int .i64 x5_1] rfl (by (try simp only [List.map_toArray, List.map_cons, List.map_nil]); first | done | rfl | (simp only [List.length_drop, List.length_take]; rfl)) ?_; (with_reducible refine (halberdref06_Bit.calls k1 a0_0 a0_1 x5_1 true true _ A5.out).mono ?_); rintro e w11 ⟨rfl, hb⟩; refine ⟨_, rfl, ?_⟩; have n0_ := Aside0.mk (blk_below (g := gb257) (o := .cells #[.int .u64 a0_0, .int .u64 a0_1] 24 (0, 0)) (by (with_reducible repeat (first | refine blk_drewN ?_ _ | refine blk_drew ?_ | refine blk_alloc ?_ _)); exact BK257.out) hb); have n1_ := Aside0.mk (below_step (by repeat (first | (with_reducible first | exact HB.out | apply below_alloc | apply pw_below_drewN | apply below_drew1 | refine below_set ?_ GE257.out) | exact HB.out)) hb); clear BK257; clear HB; have BK257 := n0_; have HB := n1_; clear n0_ n1_; (try clear hb); (try clear hb2); (try clear hk); (try clear hi)))
        go_roundg k1
        case measure => have := HK1.out; omega
        case rel => exact ⟨(IntKind.u64.wrap (Int.tdiv x1_1 2)), (wrap64 (x5_1 + 1)), (by first | rfl | (simp; done) | (simp [*]; done)), (by first | rfl | (simp; done) | (simp [*]; done)), H', ⟨by have := HK1.out; omega⟩, ⟨by (with_reducible repeat (first | refine blk_drewN ?_ _ | refine blk_drew ?_ | refine blk_alloc ?_ _)); exact BK257.out⟩, ⟨by repeat (first | (with_reducible first | exact HB.out | apply below_alloc | apply pw_below_drewN | apply below_drew1 | refine below_set ?_ GE257.out) | exact HB.out)⟩⟩
       ·replace c9 := Bool.eq_false_iff.mpr c9
        subst c9
        have H1 : (some false) = some r := by rw [if_neg (show ¬ (false = true) by decide)] at H; exact H
        clear H
        have H := H1
        clear H1
        obtain rfl := Option.some.inj H
        have hcz12_0 : wr.cell? ⟨gb257, 0, none⟩ = some (.int .u64 a0_0) := (blk_cell BK257.out 0).trans rfl
        have hcz12_1 : wr.cell? ⟨gb257, 1, none⟩ = some (.int .u64 a0_1) := (blk_cell BK257.out 1).trans rfl
        have hfz12_0 := blk_frozen BK257.out 0
        have hfz12_1 := blk_frozen BK257.out 1
        go_wp2_with (first | ((with_reducible refine gate_callee (f := 56) rfl ?_); refine goesL_ (some 15) rfl rfl Try.func56 (by kernel_rfl) rfl #[.agg #[.int .u64 a0_0, .int .u64 a0_1], .int .i64 x5_1] rfl (by (try simp only [List.map_toArray, List.map_cons, List.map_nil]); first | done | rfl | (simp only [List.length_drop, List.length_take]; rfl)) ?_; (with_reducible refine (halberdref06_Bit.calls k1 a0_0 a0_1 x5_1 true false _ A5.out).mono ?_); rintro e w13 ⟨rfl, hb⟩; refine ⟨_, rfl, ?_⟩; have n0_ := Aside0.mk (blk_below (g := gb257) (o := .cells #[.int .u64 a0_0, .int .u64 a0_1] 24 (0, 0)) (by (with_reducible repeat (first | refine blk_drewN ?_ _ | refine blk_drew ?_ | refine blk_alloc ?_ _)); exact BK257.out) hb); have n1_ := Aside0.mk (below_step (by repeat (first | (with_reducible first | exact HB.out | apply below_alloc | apply pw_below_drewN | apply below_drew1 | refine below_set ?_ GE257.out) | exact HB.out)) hb); clear BK257; clear HB; have BK257 := n0_; have HB := n1_; clear n0_ n1_; (try clear hb); (try clear hb2); (try clear hk); (try clear hi)))
        go_ret
        exact ⟨by first | rfl | (simp [errW_none, errW_some] <;> rfl) | (simp [*, errW_none, errW_some] <;> rfl), by repeat (first | (with_reducible first | exact HB.out | apply below_alloc | apply pw_below_drewN | apply below_drew1 | refine below_set ?_ GE257.out) | exact HB.out)⟩
      ·rw [if_neg c8] at H
       have c8b0 : ((Int.tmod x1_1 2) == 1) = false := beq_eq_false_iff_ne.mpr c8
       have c8b1 : ((Int.tmod x1_1 2) != 1) = true := bne_iff_ne.mpr c8
       have H' := Aside0.mk H
       clear H
       have hcz14_0 : wr.cell? ⟨gb257, 0, none⟩ = some (.int .u64 a0_0) := (blk_cell BK257.out 0).trans rfl
       have hcz14_1 : wr.cell? ⟨gb257, 1, none⟩ = some (.int .u64 a0_1) := (blk_cell BK257.out 1).trans rfl
       have hfz14_0 := blk_frozen BK257.out 0
       have hfz14_1 := blk_frozen BK257.out 1
       go_wp2_with (first | ((with_reducible refine gate_callee (f := 56) rfl ?_); refine goesL_ (some 15) rfl rfl Try.func56 (by kernel_rfl) rfl #[.agg #[.int .u64 a0_0, .int .u64 a0_1], .int .i64 x5_1] rfl (by (try simp only [List.map_toArray, List.map_cons, List.map_nil]); first | done | rfl | (simp only [List.length_drop, List.length_take]; rfl)) ?_; (with_reducible refine (halberdref06_Bit.calls k1 a0_0 a0_1 x5_1 true t259 _ A5.out).mono ?_); rintro e w15 ⟨rfl, hb⟩; refine ⟨_, rfl, ?_⟩; have n0_ := Aside0.mk (blk_below (g := gb257) (o := .cells #[.int .u64 a0_0, .int .u64 a0_1] 24 (0, 0)) (by (with_reducible repeat (first | refine blk_drewN ?_ _ | refine blk_drew ?_ | refine blk_alloc ?_ _)); exact BK257.out) hb); have n1_ := Aside0.mk (below_step (by repeat (first | (with_reducible first | exact HB.out | apply below_alloc | apply pw_below_drewN | apply below_drew1 | refine below_set ?_ GE257.out) | exact HB.out)) hb); clear BK257; clear HB; have BK257 := n0_; have HB := n1_; clear n0_ n1_; (try clear hb); (try clear hb2); (try clear hk); (try clear hi)))
       go_roundg k1
       case measure => have := HK1.out; omega
       case rel => exact ⟨(IntKind.u64.wrap (Int.tdiv x1_1 2)), (wrap64 (x5_1 + 1)), (by first | rfl | (simp; done) | (simp [*]; done)), (by first | rfl | (simp; done) | (simp [*]; done)), H', ⟨by have := HK1.out; omega⟩, ⟨by (with_reducible repeat (first | refine blk_drewN ?_ _ | refine blk_drew ?_ | refine blk_alloc ?_ _)); exact BK257.out⟩, ⟨by repeat (first | (with_reducible first | exact HB.out | apply below_alloc | apply pw_below_drewN | apply below_drew1 | refine below_set ?_ GE257.out) | exact HB.out)⟩⟩
     ·replace c7 := Bool.eq_false_iff.mpr c7
      subst c7
      have H1 : (some false) = some r := by rw [if_neg (show ¬ (false = true) by decide)] at H; exact H
      clear H
      have H := H1
      clear H1
      obtain rfl := Option.some.inj H
      have hcz16_0 : wr.cell? ⟨gb257, 0, none⟩ = some (.int .u64 a0_0) := (blk_cell BK257.out 0).trans rfl
      have hcz16_1 : wr.cell? ⟨gb257, 1, none⟩ = some (.int .u64 a0_1) := (blk_cell BK257.out 1).trans rfl
      have hfz16_0 := blk_frozen BK257.out 0
      have hfz16_1 := blk_frozen BK257.out 1
      go_wp2_with (first | ((with_reducible refine gate_callee (f := 56) rfl ?_); refine goesL_ (some 15) rfl rfl Try.func56 (by kernel_rfl) rfl #[.agg #[.int .u64 a0_0, .int .u64 a0_1], .int .i64 x5_1] rfl (by (try simp only [List.map_toArray, List.map_cons, List.map_nil]); first | done | rfl | (simp only [List.length_drop, List.length_take]; rfl)) ?_; (with_reducible refine (halberdref06_Bit.calls k1 a0_0 a0_1 x5_1 false t259 _ A5.out).mono ?_); rintro e w17 ⟨rfl, hb⟩; refine ⟨_, rfl, ?_⟩; have n0_ := Aside0.mk (blk_below (g := gb257) (o := .cells #[.int .u64 a0_0, .int .u64 a0_1] 24 (0, 0)) (by (with_reducible repeat (first | refine blk_drewN ?_ _ | refine blk_drew ?_ | refine blk_alloc ?_ _)); exact BK257.out) hb); have n1_ := Aside0.mk (below_step (by repeat (first | (with_reducible first | exact HB.out | apply below_alloc | apply pw_below_drewN | apply below_drew1 | refine below_set ?_ GE257.out) | exact HB.out)) hb); clear BK257; clear HB; have BK257 := n0_; have HB := n1_; clear n0_ n1_; (try clear hb); (try clear hb2); (try clear hk); (try clear hi)))
      go_ret
      exact ⟨by first | rfl | (simp [errW_none, errW_some] <;> rfl) | (simp [*, errW_none, errW_some] <;> rfl), by repeat (first | (with_reducible first | exact HB.out | apply below_alloc | apply pw_below_drewN | apply below_drew1 | refine below_set ?_ GE257.out) | exact HB.out)⟩
    ·rw [if_neg c6] at H
     have c6b0 : ((Int.tmod x1_1 2) == 0) = false := beq_eq_false_iff_ne.mpr c6
     have c6b1 : ((Int.tmod x1_1 2) != 0) = true := bne_iff_ne.mpr c6
     by_cases c18 : (Int.tmod x1_1 2) = 1
     ·rw [if_pos c18] at H
      have c18b0 : ((Int.tmod x1_1 2) == 1) = true := beq_iff_eq.mpr c18
      have c18b1 : ((Int.tmod x1_1 2) != 1) = false := bne_eq_false_iff_eq.mpr c18
      clear c18
      by_cases c19 : t259 = true
      ·subst c19
       have H1 : (halberdref06_Has.l0 k1 (IntKind.u64.wrap (Int.tdiv x1_1 2)) (wrap64 (x5_1 + 1)) a0_0 a0_1) = some r := by rw [if_pos rfl] at H; exact H
       clear H
       have H := H1
       clear H1
       have H' := Aside0.mk H
       clear H
       have hcz20_0 : wr.cell? ⟨gb257, 0, none⟩ = some (.int .u64 a0_0) := (blk_cell BK257.out 0).trans rfl
       have hcz20_1 : wr.cell? ⟨gb257, 1, none⟩ = some (.int .u64 a0_1) := (blk_cell BK257.out 1).trans rfl
       have hfz20_0 := blk_frozen BK257.out 0
       have hfz20_1 := blk_frozen BK257.out 1
       go_wp2_with (first | ((with_reducible refine gate_callee (f := 56) rfl ?_); refine goesL_ (some 15) rfl rfl Try.func56 (by kernel_rfl) rfl #[.agg #[.int .u64 a0_0, .int .u64 a0_1], .int .i64 x5_1] rfl (by (try simp only [List.map_toArray, List.map_cons, List.map_nil]); first | done | rfl | (simp only [List.length_drop, List.length_take]; rfl)) ?_; (with_reducible refine (halberdref06_Bit.calls k1 a0_0 a0_1 x5_1 t258 true _ A5.out).mono ?_); rintro e w21 ⟨rfl, hb⟩; refine ⟨_, rfl, ?_⟩; have n0_ := Aside0.mk (blk_below (g := gb257) (o := .cells #[.int .u64 a0_0, .int .u64 a0_1] 24 (0, 0)) (by (with_reducible repeat (first | refine blk_drewN ?_ _ | refine blk_drew ?_ | refine blk_alloc ?_ _)); exact BK257.out) hb); have n1_ := Aside0.mk (below_step (by repeat (first | (with_reducible first | exact HB.out | apply below_alloc | apply pw_below_drewN | apply below_drew1 | refine below_set ?_ GE257.out) | exact HB.out)) hb); clear BK257; clear HB; have BK257 := n0_; have HB := n1_; clear n0_ n1_; (try clear hb); (try clear hb2); (try clear hk); (try clear hi)))
       go_roundg k1
       case measure => have := HK1.out; omega
       case rel => exact ⟨(IntKind.u64.wrap (Int.tdiv x1_1 2)), (wrap64 (x5_1 + 1)), (by first | rfl | (simp; done) | (simp [*]; done)), (by first | rfl | (simp; done) | (simp [*]; done)), H', ⟨by have := HK1.out; omega⟩, ⟨by (with_reducible repeat (first | refine blk_drewN ?_ _ | refine blk_drew ?_ | refine blk_alloc ?_ _)); exact BK257.out⟩, ⟨by repeat (first | (with_reducible first | exact HB.out | apply below_alloc | apply pw_below_drewN | apply below_drew1 | refine below_set ?_ GE257.out) | exact HB.out)⟩⟩
      ·replace c19 := Bool.eq_false_iff.mpr c19
       subst c19
       have H1 : (some false) = some r := by rw [if_neg (show ¬ (false = true) by decide)] at H; exact H
       clear H
       have H := H1
       clear H1
       obtain rfl := Option.some.inj H
       have hcz22_0 : wr.cell? ⟨gb257, 0, none⟩ = some (.int .u64 a0_0) := (blk_cell BK257.out 0).trans rfl
       have hcz22_1 : wr.cell? ⟨gb257, 1, none⟩ = some (.int .u64 a0_1) := (blk_cell BK257.out 1).trans rfl
       have hfz22_0 := blk_frozen BK257.out 0
       have hfz22_1 := blk_frozen BK257.out 1
       go_wp2_with (first | ((with_reducible refine gate_callee (f := 56) rfl ?_); refine goesL_ (some 15) rfl rfl Try.func56 (by kernel_rfl) rfl #[.agg #[.int .u64 a0_0, .int .u64 a0_1], .int .i64 x5_1] rfl (by (try simp only [List.map_toArray, List.map_cons, List.map_nil]); first | done | rfl | (simp only [List.length_drop, List.length_take]; rfl)) ?_; (with_reducible refine (halberdref06_Bit.calls k1 a0_0 a0_1 x5_1 t258 false _ A5.out).mono ?_); rintro e w23 ⟨rfl, hb⟩; refine ⟨_, rfl, ?_⟩; have n0_ := Aside0.mk (blk_below (g := gb257) (o := .cells #[.int .u64 a0_0, .int .u64 a0_1] 24 (0, 0)) (by (with_reducible repeat (first | refine blk_drewN ?_ _ | refine blk_drew ?_ | refine blk_alloc ?_ _)); exact BK257.out) hb); have n1_ := Aside0.mk (below_step (by repeat (first | (with_reducible first | exact HB.out | apply below_alloc | apply pw_below_drewN | apply below_drew1 | refine below_set ?_ GE257.out) | exact HB.out)) hb); clear BK257; clear HB; have BK257 := n0_; have HB := n1_; clear n0_ n1_; (try clear hb); (try clear hb2); (try clear hk); (try clear hi)))
       go_ret
       exact ⟨by first | rfl | (simp [errW_none, errW_some] <;> rfl) | (simp [*, errW_none, errW_some] <;> rfl), by repeat (first | (with_reducible first | exact HB.out | apply below_alloc | apply pw_below_drewN | apply below_drew1 | refine below_set ?_ GE257.out) | exact HB.out)⟩
     ·rw [if_neg c18] at H
      have c18b0 : ((Int.tmod x1_1 2) == 1) = false := beq_eq_false_iff_ne.mpr c18
      have c18b1 : ((Int.tmod x1_1 2) != 1) = true := bne_iff_ne.mpr c18
      have H' := Aside0.mk H
      clear H
      have hcz24_0 : wr.cell? ⟨gb257, 0, none⟩ = some (.int .u64 a0_0) := (blk_cell BK257.out 0).trans rfl
      have hcz24_1 : wr.cell? ⟨gb257, 1, none⟩ = some (.int .u64 a0_1) := (blk_cell BK257.out 1).trans rfl
      have hfz24_0 := blk_frozen BK257.out 0
      have hfz24_1 := blk_frozen BK257.out 1
      go_wp2_with (first | ((with_reducible refine gate_callee (f := 56) rfl ?_); refine goesL_ (some 15) rfl rfl Try.func56 (by kernel_rfl) rfl #[.agg #[.int .u64 a0_0, .int .u64 a0_1], .int .i64 x5_1] rfl (by (try simp only [List.map_toArray, List.map_cons, List.map_nil]); first | done | rfl | (simp only [List.length_drop, List.length_take]; rfl)) ?_; (with_reducible refine (halberdref06_Bit.calls k1 a0_0 a0_1 x5_1 t258 t259 _ A5.out).mono ?_); rintro e w25 ⟨rfl, hb⟩; refine ⟨_, rfl, ?_⟩; have n0_ := Aside0.mk (blk_below (g := gb257) (o := .cells #[.int .u64 a0_0, .int .u64 a0_1] 24 (0, 0)) (by (with_reducible repeat (first | refine blk_drewN ?_ _ | refine blk_drew ?_ | refine blk_alloc ?_ _)); exact BK257.out) hb); have n1_ := Aside0.mk (below_step (by repeat (first | (with_reducible first | exact HB.out | apply below_alloc | apply pw_below_drewN | apply below_drew1 | refine below_set ?_ GE257.out) | exact HB.out)) hb); clear BK257; clear HB; have BK257 := n0_; have HB := n1_; clear n0_ n1_; (try clear hb); (try clear hb2); (try clear hk); (try clear hi)))
      go_roundg k1
      case measure => have := HK1.out; omega
      case rel => exact ⟨(IntKind.u64.wrap (Int.tdiv x1_1 2)), (wrap64 (x5_1 + 1)), (by first | rfl | (simp; done) | (simp [*]; done)), (by first | rfl | (simp; done) | (simp [*]; done)), H', ⟨by have := HK1.out; omega⟩, ⟨by (with_reducible repeat (first | refine blk_drewN ?_ _ | refine blk_drew ?_ | refine blk_alloc ?_ _)); exact BK257.out⟩, ⟨by repeat (first | (with_reducible first | exact HB.out | apply below_alloc | apply pw_below_drewN | apply below_drew1 | refine below_set ?_ GE257.out) | exact HB.out)⟩⟩
   ·rw [if_neg c4] at H
    have c4b0 : decide (x5_1 < 64) = false := decide_eq_false c4
    clear c4
    obtain rfl := Option.some.inj H
    go_wp2
    go_ret
    exact ⟨by first | rfl | (simp [errW_none, errW_some] <;> rfl) | (simp [*, errW_none, errW_some] <;> rfl), by repeat (first | (with_reducible first | exact HB.out | apply below_alloc | apply pw_below_drewN | apply below_drew1 | refine below_set ?_ GE257.out) | exact HB.out)⟩

/-! ### halberdref07_Has: function 9 -/
def halberdref07_Has.f (k : Nat) (a0_0 : Int) (a0_1 : Int) (a0_2 : Int) (a0_3 : Int) (a0_4 : Int) (a0_5 : Int) (a1 : Int) : Option (Bool) := (halberdref06_Has.f k a0_0 a0_1 a1).bind fun t261 => (if t261 = true then (if a0_2 ≤ a1 then (if a1 ≤ a0_3 then (if a0_4 ≤ (wrap64 (a1)) then (some (decide ((wrap64 (a1)) ≤ a0_5))) else (some false)) else (some false)) else (some false)) else (some false))
theorem halberdref07_Has.mono : ∀ a0 a1 a2 a3 a4 a5 a6 k, LeO (halberdref07_Has.f k a0 a1 a2 a3 a4 a5 a6) (halberdref07_Has.f (k + 1) a0 a1 a2 a3 a4 a5 a6) := by
 intro a0 a1 a2 a3 a4 a5 a6 k
 unfold halberdref07_Has.f
 repeat' first
   | (with_reducible exact halberdref06_Has.mono _ _ _ _)
   | (with_reducible exact LeO.refl _)
   | (with_reducible exact LeO.none _)
   | (with_reducible refine LeO.ite ?_ ?_)
   | (with_reducible refine LeO.bind ?_ (fun _ => ?_))
   | exact halberdref06_Has.mono _ _ _ _
   | exact LeO.none _
   | refine LeO.ite ?_ ?_
   | refine LeO.bind ?_ (fun _ => ?_)
set_option maxHeartbeats 8000000 in
set_option maxRecDepth 100000 in
theorem halberdref07_Has.calls (k : Nat) (a0_0 : Int) (a0_1 : Int) (a0_2 : Int) (a0_3 : Int) (a0_4 : Int) (a0_5 : Int) (a1 : Int) (r : Bool) (w : World) (h : halberdref07_Has.f k a0_0 a0_1 a0_2 a0_3 a0_4 a0_5 a1 = some r) :
  Calls Try.prog 9 #[.agg #[.int .u64 a0_0, .int .u64 a0_1, .int .u64 a0_2, .int .u64 a0_3, .int .i64 a0_4, .int .i64 a0_5], .int .u64 a1] w fun e w' => e = .returned (.bool r) ∧ Below w.heap.size w w' := by
 have hu26 := Try.underlying26
 have hu24 := Try.underlying24
 have HB := Aside0.mk (Below.refl w.heap.size w)
 have H : ((halberdref06_Has.f k a0_0 a0_1 a1).bind fun t261 => (if t261 = true then (if a0_2 ≤ a1 then (if a1 ≤ a0_3 then (if a0_4 ≤ (wrap64 (a1)) then (some (decide ((wrap64 (a1)) ≤ a0_5))) else (some false)) else (some false)) else (some false)) else (some false))) = some r := h
 clear h
 replace H := Option.bind_eq_some_iff.mp H
 obtain ⟨t261, A30, H⟩ := H
 replace H : (if t261 = true then (if a0_2 ≤ a1 then (if a1 ≤ a0_3 then (if a0_4 ≤ (wrap64 (a1)) then (some (decide ((wrap64 (a1)) ≤ a0_5))) else (some false)) else (some false)) else (some false)) else (some false)) = some r := H
 have A3 := Aside0.mk A30
 clear A30
 by_cases c4 : t261 = true
 ·subst c4
  have H1 : (if a0_2 ≤ a1 then (if a1 ≤ a0_3 then (if a0_4 ≤ (wrap64 (a1)) then (some (decide ((wrap64 (a1)) ≤ a0_5))) else (some false)) else (some false)) else (some false)) = some r := by rw [if_pos rfl] at H; exact H
  clear H
  have H := H1
  clear H1
  by_cases c5 : a0_2 ≤ a1
  ·rw [if_pos c5] at H
   have c5b0 : decide (a0_2 ≤ a1) = true := decide_eq_true c5
   clear c5
   by_cases c6 : a1 ≤ a0_3
   ·rw [if_pos c6] at H
    have c6b0 : decide (a1 ≤ a0_3) = true := decide_eq_true c6
    clear c6
    by_cases c7 : a0_4 ≤ (wrap64 (a1))
    ·rw [if_pos c7] at H
     have c7b0 : decide (a0_4 ≤ (wrap64 (a1))) = true := decide_eq_true c7
     clear c7
     obtain rfl := Option.some.inj H
     go_enter Try.func9, Try.ntmps9
     go_wp2_with (first | ((with_reducible refine gate_dst (N := 2) rfl ?_); refine box_event ?hg (N := 2) ?hd (cs := #[.int .u64 a0_0, .int .u64 a0_1, .int .u64 a0_2, .int .u64 a0_3, .int .i64 a0_4, .int .i64 a0_5]) (t := 26) ?hr ?_; (case hd => rfl); (case hg => rfl); (case hr => first | (go_simp; done) | (go_simp; rfl)); intro gb260 hg w8 hbox hb; have n0_ := Aside0.mk (below_step (by repeat (first | (with_reducible first | exact HB.out | apply below_alloc | apply pw_below_drewN | apply below_drew1) | exact HB.out)) hb); have n1_ := Aside0.mk (hbox); have n2_ := Aside0.mk ((by rw [hg]; exact (below_size (by repeat (first | (with_reducible first | exact HB.out | apply below_alloc | apply pw_below_drewN | apply below_drew1) | exact HB.out))) : w.heap.size ≤ gb260)); have n3_ := Aside0.mk ((by rw [hg]; exact (below_size (by repeat (first | (with_reducible first | exact HB.out | apply below_alloc | apply pw_below_drewN | apply below_drew1) | exact HB.out))) : w.heap.size ≤ gb260)); clear HB; have HB := n0_; have BK260 := n1_; have GW260 := n2_; have GE260 := n3_; clear n0_ n1_ n2_ n3_; clear hb hbox hg; have hcz9_0 : w8.cell? ⟨gb260, 0, none⟩ = some (.int .u64 a0_0) := (blk_cell BK260.out 0).trans rfl; have hcz9_1 : w8.cell? ⟨gb260, 1, none⟩ = some (.int .u64 a0_1) := (blk_cell BK260.out 1).trans rfl; have hcz9_2 : w8.cell? ⟨gb260, 2, none⟩ = some (.int .u64 a0_2) := (blk_cell BK260.out 2).trans rfl; have hcz9_3 : w8.cell? ⟨gb260, 3, none⟩ = some (.int .u64 a0_3) := (blk_cell BK260.out 3).trans rfl; have hcz9_4 : w8.cell? ⟨gb260, 4, none⟩ = some (.int .i64 a0_4) := (blk_cell BK260.out 4).trans rfl; have hcz9_5 : w8.cell? ⟨gb260, 5, none⟩ = some (.int .i64 a0_5) := (blk_cell BK260.out 5).trans rfl; have hfz9_0 := blk_frozen BK260.out 0; have hfz9_1 := blk_frozen BK260.out 1; have hfz9_2 := blk_frozen BK260.out 2; have hfz9_3 := blk_frozen BK260.out 3; have hfz9_4 := blk_frozen BK260.out 4; have hfz9_5 := blk_frozen BK260.out 5) | ((with_reducible refine gate_callee (f := 23) rfl ?_); refine goesL_ (some 11) rfl rfl Try.func23 (by kernel_rfl) rfl #[.agg #[.int .u64 a0_0, .int .u64 a0_1], .int .u64 a1] rfl (by (try simp only [List.map_toArray, List.map_cons, List.map_nil]); first | done | rfl | (simp only [List.length_drop, List.length_take]; rfl)) ?_; (with_reducible refine (halberdref06_Has.calls k a0_0 a0_1 a1 true _ A3.out).mono ?_); rintro e w10 ⟨rfl, hb⟩; refine ⟨_, rfl, ?_⟩; have n0_ := Aside0.mk (blk_below (g := gb260) (o := .cells #[.int .u64 a0_0, .int .u64 a0_1, .int .u64 a0_2, .int .u64 a0_3, .int .i64 a0_4, .int .i64 a0_5] 26 (0, 0)) (by (with_reducible repeat (first | refine blk_drewN ?_ _ | refine blk_drew ?_ | refine blk_alloc ?_ _)); exact BK260.out) hb); have n1_ := Aside0.mk (below_step (by repeat (first | (with_reducible first | exact HB.out | apply below_alloc | apply pw_below_drewN | apply below_drew1 | refine below_set ?_ GE260.out) | exact HB.out)) hb); clear BK260; clear HB; have BK260 := n0_; have HB := n1_; clear n0_ n1_; (try clear hb); (try clear hb2); (try clear hk); (try clear hi); have hcz11_0 : w10.cell? ⟨gb260, 0, none⟩ = some (.int .u64 a0_0) := (blk_cell BK260.out 0).trans rfl; have hcz11_1 : w10.cell? ⟨gb260, 1, none⟩ = some (.int .u64 a0_1) := (blk_cell BK260.out 1).trans rfl; have hcz11_2 : w10.cell? ⟨gb260, 2, none⟩ = some (.int .u64 a0_2) := (blk_cell BK260.out 2).trans rfl; have hcz11_3 : w10.cell? ⟨gb260, 3, none⟩ = some (.int .u64 a0_3) := (blk_cell BK260.out 3).trans rfl; have hcz11_4 : w10.cell? ⟨gb260, 4, none⟩ = some (.int .i64 a0_4) := (blk_cell BK260.out 4).trans rfl; have hcz11_5 : w10.cell? ⟨gb260, 5, none⟩ = some (.int .i64 a0_5) := (blk_cell BK260.out 5).trans rfl; have hfz11_0 := blk_frozen BK260.out 0; have hfz11_1 := blk_frozen BK260.out 1; have hfz11_2 := blk_frozen BK260.out 2; have hfz11_3 := blk_frozen BK260.out 3; have hfz11_4 := blk_frozen BK260.out 4; have hfz11_5 := blk_frozen BK260.out 5))
     go_ret
     exact ⟨by first | rfl | (simp [errW_none, errW_some] <;> rfl) | (simp [*, errW_none, errW_some] <;> rfl), by repeat (first | (with_reducible first | exact HB.out | apply below_alloc | apply pw_below_drewN | apply below_drew1 | refine below_set ?_ GE260.out) | exact HB.out)⟩
    ·rw [if_neg c7] at H
     have c7b0 : decide (a0_4 ≤ (wrap64 (a1))) = false := decide_eq_false c7
     clear c7
     obtain rfl := Option.some.inj H
     go_enter Try.func9, Try.ntmps9
     go_wp2_with (first | ((with_reducible refine gate_dst (N := 2) rfl ?_); refine box_event ?hg (N := 2) ?hd (cs := #[.int .u64 a0_0, .int .u64 a0_1, .int .u64 a0_2, .int .u64 a0_3, .int .i64 a0_4, .int .i64 a0_5]) (t := 26) ?hr ?_; (case hd => rfl); (case hg => rfl); (case hr => first | (go_simp; done) | (go_simp; rfl)); intro gb260 hg w12 hbox hb; have n0_ := Aside0.mk (below_step (by repeat (first | (with_reducible first | exact HB.out | apply below_alloc | apply pw_below_drewN | apply below_drew1) | exact HB.out)) hb); have n1_ := Aside0.mk (hbox); have n2_ := Aside0.mk ((by rw [hg]; exact (below_size (by repeat (first | (with_reducible first | exact HB.out | apply below_alloc | apply pw_below_drewN | apply below_drew1) | exact HB.out))) : w.heap.size ≤ gb260)); have n3_ := Aside0.mk ((by rw [hg]; exact (below_size (by repeat (first | (with_reducible first | exact HB.out | apply below_alloc | apply pw_below_drewN | apply below_drew1) | exact HB.out))) : w.heap.size ≤ gb260)); clear HB; have HB := n0_; have BK260 := n1_; have GW260 := n2_; have GE260 := n3_; clear n0_ n1_ n2_ n3_; clear hb hbox hg; have hcz13_0 : w12.cell? ⟨gb260, 0, none⟩ = some (.int .u64 a0_0) := (blk_cell BK260.out 0).trans rfl; have hcz13_1 : w12.cell? ⟨gb260, 1, none⟩ = some (.int .u64 a0_1) := (blk_cell BK260.out 1).trans rfl; have hcz13_2 : w12.cell? ⟨gb260, 2, none⟩ = some (.int .u64 a0_2) := (blk_cell BK260.out 2).trans rfl; have hcz13_3 : w12.cell? ⟨gb260, 3, none⟩ = some (.int .u64 a0_3) := (blk_cell BK260.out 3).trans rfl; have hcz13_4 : w12.cell? ⟨gb260, 4, none⟩ = some (.int .i64 a0_4) := (blk_cell BK260.out 4).trans rfl; have hcz13_5 : w12.cell? ⟨gb260, 5, none⟩ = some (.int .i64 a0_5) := (blk_cell BK260.out 5).trans rfl; have hfz13_0 := blk_frozen BK260.out 0; have hfz13_1 := blk_frozen BK260.out 1; have hfz13_2 := blk_frozen BK260.out 2; have hfz13_3 := blk_frozen BK260.out 3; have hfz13_4 := blk_frozen BK260.out 4; have hfz13_5 := blk_frozen BK260.out 5) | ((with_reducible refine gate_callee (f := 23) rfl ?_); refine goesL_ (some 11) rfl rfl Try.func23 (by kernel_rfl) rfl #[.agg #[.int .u64 a0_0, .int .u64 a0_1], .int .u64 a1] rfl (by (try simp only [List.map_toArray, List.map_cons, List.map_nil]); first | done | rfl | (simp only [List.length_drop, List.length_take]; rfl)) ?_; (with_reducible refine (halberdref06_Has.calls k a0_0 a0_1 a1 true _ A3.out).mono ?_); rintro e w14 ⟨rfl, hb⟩; refine ⟨_, rfl, ?_⟩; have n0_ := Aside0.mk (blk_below (g := gb260) (o := .cells #[.int .u64 a0_0, .int .u64 a0_1, .int .u64 a0_2, .int .u64 a0_3, .int .i64 a0_4, .int .i64 a0_5] 26 (0, 0)) (by (with_reducible repeat (first | refine blk_drewN ?_ _ | refine blk_drew ?_ | refine blk_alloc ?_ _)); exact BK260.out) hb); have n1_ := Aside0.mk (below_step (by repeat (first | (with_reducible first | exact HB.out | apply below_alloc | apply pw_below_drewN | apply below_drew1 | refine below_set ?_ GE260.out) | exact HB.out)) hb); clear BK260; clear HB; have BK260 := n0_; have HB := n1_; clear n0_ n1_; (try clear hb); (try clear hb2); (try clear hk); (try clear hi); have hcz15_0 : w14.cell? ⟨gb260, 0, none⟩ = some (.int .u64 a0_0) := (blk_cell BK260.out 0).trans rfl; have hcz15_1 : w14.cell? ⟨gb260, 1, none⟩ = some (.int .u64 a0_1) := (blk_cell BK260.out 1).trans rfl; have hcz15_2 : w14.cell? ⟨gb260, 2, none⟩ = some (.int .u64 a0_2) := (blk_cell BK260.out 2).trans rfl; have hcz15_3 : w14.cell? ⟨gb260, 3, none⟩ = some (.int .u64 a0_3) := (blk_cell BK260.out 3).trans rfl; have hcz15_4 : w14.cell? ⟨gb260, 4, none⟩ = some (.int .i64 a0_4) := (blk_cell BK260.out 4).trans rfl; have hcz15_5 : w14.cell? ⟨gb260, 5, none⟩ = some (.int .i64 a0_5) := (blk_cell BK260.out 5).trans rfl; have hfz15_0 := blk_frozen BK260.out 0; have hfz15_1 := blk_frozen BK260.out 1; have hfz15_2 := blk_frozen BK260.out 2; have hfz15_3 := blk_frozen BK260.out 3; have hfz15_4 := blk_frozen BK260.out 4; have hfz15_5 := blk_frozen BK260.out 5))
     go_ret
     exact ⟨by first | rfl | (simp [errW_none, errW_some] <;> rfl) | (simp [*, errW_none, errW_some] <;> rfl), by repeat (first | (with_reducible first | exact HB.out | apply below_alloc | apply pw_below_drewN | apply below_drew1 | refine below_set ?_ GE260.out) | exact HB.out)⟩
   ·rw [if_neg c6] at H
    have c6b0 : decide (a1 ≤ a0_3) = false := decide_eq_false c6
    clear c6
    obtain rfl := Option.some.inj H
    go_enter Try.func9, Try.ntmps9
    go_wp2_with (first | ((with_reducible refine gate_dst (N := 2) rfl ?_); refine box_event ?hg (N := 2) ?hd (cs := #[.int .u64 a0_0, .int .u64 a0_1, .int .u64 a0_2, .int .u64 a0_3, .int .i64 a0_4, .int .i64 a0_5]) (t := 26) ?hr ?_; (case hd => rfl); (case hg => rfl); (case hr => first | (go_simp; done) | (go_simp; rfl)); intro gb260 hg w16 hbox hb; have n0_ := Aside0.mk (below_step (by repeat (first | (with_reducible first | exact HB.out | apply below_alloc | apply pw_below_drewN | apply below_drew1) | exact HB.out)) hb); have n1_ := Aside0.mk (hbox); have n2_ := Aside0.mk ((by rw [hg]; exact (below_size (by repeat (first | (with_reducible first | exact HB.out | apply below_alloc | apply pw_below_drewN | apply below_drew1) | exact HB.out))) : w.heap.size ≤ gb260)); have n3_ := Aside0.mk ((by rw [hg]; exact (below_size (by repeat (first | (with_reducible first | exact HB.out | apply below_alloc | apply pw_below_drewN | apply below_drew1) | exact HB.out))) : w.heap.size ≤ gb260)); clear HB; have HB := n0_; have BK260 := n1_; have GW260 := n2_; have GE260 := n3_; clear n0_ n1_ n2_ n3_; clear hb hbox hg; have hcz17_0 : w16.cell? ⟨gb260, 0, none⟩ = some (.int .u64 a0_0) := (blk_cell BK260.out 0).trans rfl; have hcz17_1 : w16.cell? ⟨gb260, 1, none⟩ = some (.int .u64 a0_1) := (blk_cell BK260.out 1).trans rfl; have hcz17_2 : w16.cell? ⟨gb260, 2, none⟩ = some (.int .u64 a0_2) := (blk_cell BK260.out 2).trans rfl; have hcz17_3 : w16.cell? ⟨gb260, 3, none⟩ = some (.int .u64 a0_3) := (blk_cell BK260.out 3).trans rfl; have hcz17_4 : w16.cell? ⟨gb260, 4, none⟩ = some (.int .i64 a0_4) := (blk_cell BK260.out 4).trans rfl; have hcz17_5 : w16.cell? ⟨gb260, 5, none⟩ = some (.int .i64 a0_5) := (blk_cell BK260.out 5).trans rfl; have hfz17_0 := blk_frozen BK260.out 0; have hfz17_1 := blk_frozen BK260.out 1; have hfz17_2 := blk_frozen BK260.out 2; have hfz17_3 := blk_frozen BK260.out 3; have hfz17_4 := blk_frozen BK260.out 4; have hfz17_5 := blk_frozen BK260.out 5) | ((with_reducible refine gate_callee (f := 23) rfl ?_); refine goesL_ (some 11) rfl rfl Try.func23 (by kernel_rfl) rfl #[.agg #[.int .u64 a0_0, .int .u64 a0_1], .int .u64 a1] rfl (by (try simp only [List.map_toArray, List.map_cons, List.map_nil]); first | done | rfl | (simp only [List.length_drop, List.length_take]; rfl)) ?_; (with_reducible refine (halberdref06_Has.calls k a0_0 a0_1 a1 true _ A3.out).mono ?_); rintro e w18 ⟨rfl, hb⟩; refine ⟨_, rfl, ?_⟩; have n0_ := Aside0.mk (blk_below (g := gb260) (o := .cells #[.int .u64 a0_0, .int .u64 a0_1, .int .u64 a0_2, .int .u64 a0_3, .int .i64 a0_4, .int .i64 a0_5] 26 (0, 0)) (by (with_reducible repeat (first | refine blk_drewN ?_ _ | refine blk_drew ?_ | refine blk_alloc ?_ _)); exact BK260.out) hb); have n1_ := Aside0.mk (below_step (by repeat (first | (with_reducible first | exact HB.out | apply below_alloc | apply pw_below_drewN | apply below_drew1 | refine below_set ?_ GE260.out) | exact HB.out)) hb); clear BK260; clear HB; have BK260 := n0_; have HB := n1_; clear n0_ n1_; (try clear hb); (try clear hb2); (try clear hk); (try clear hi); have hcz19_0 : w18.cell? ⟨gb260, 0, none⟩ = some (.int .u64 a0_0) := (blk_cell BK260.out 0).trans rfl; have hcz19_1 : w18.cell? ⟨gb260, 1, none⟩ = some (.int .u64 a0_1) := (blk_cell BK260.out 1).trans rfl; have hcz19_2 : w18.cell? ⟨gb260, 2, none⟩ = some (.int .u64 a0_2) := (blk_cell BK260.out 2).trans rfl; have hcz19_3 : w18.cell? ⟨gb260, 3, none⟩ = some (.int .u64 a0_3) := (blk_cell BK260.out 3).trans rfl; have hcz19_4 : w18.cell? ⟨gb260, 4, none⟩ = some (.int .i64 a0_4) := (blk_cell BK260.out 4).trans rfl; have hcz19_5 : w18.cell? ⟨gb260, 5, none⟩ = some (.int .i64 a0_5) := (blk_cell BK260.out 5).trans rfl; have hfz19_0 := blk_frozen BK260.out 0; have hfz19_1 := blk_frozen BK260.out 1; have hfz19_2 := blk_frozen BK260.out 2; have hfz19_3 := blk_frozen BK260.out 3; have hfz19_4 := blk_frozen BK260.out 4; have hfz19_5 := blk_frozen BK260.out 5))
    go_ret
    exact ⟨by first | rfl | (simp [errW_none, errW_some] <;> rfl) | (simp [*, errW_none, errW_some] <;> rfl), by repeat (first | (with_reducible first | exact HB.out | apply below_alloc | apply pw_below_drewN | apply below_drew1 | refine below_set ?_ GE260.out) | exact HB.out)⟩
  ·rw [if_neg c5] at H
   have c5b0 : decide (a0_2 ≤ a1) = false := decide_eq_false c5
   clear c5
   obtain rfl := Option.some.inj H
   go_enter Try.func9, Try.ntmps9
   go_wp2_with (first | ((with_reducible refine gate_dst (N := 2) rfl ?_); refine box_event ?hg (N := 2) ?hd (cs := #[.int .u64 a0_0, .int .u64 a0_1, .int .u64 a0_2, .int .u64 a0_3, .int .i64 a0_4, .int .i64 a0_5]) (t := 26) ?hr ?_; (case hd => rfl); (case hg => rfl); (case hr => first | (go_simp; done) | (go_simp; rfl)); intro gb260 hg w20 hbox hb; have n0_ := Aside0.mk (below_step (by repeat (first | (with_reducible first | exact HB.out | apply below_alloc | apply pw_below_drewN | apply below_drew1) | exact HB.out)) hb); have n1_ := Aside0.mk (hbox); have n2_ := Aside0.mk ((by rw [hg]; exact (below_size (by repeat (first | (with_reducible first | exact HB.out | apply below_alloc | apply pw_below_drewN | apply below_drew1) | exact HB.out))) : w.heap.size ≤ gb260)); have n3_ := Aside0.mk ((by rw [hg]; exact (below_size (by repeat (first | (with_reducible first | exact HB.out | apply below_alloc | apply pw_below_drewN | apply below_drew1) | exact HB.out))) : w.heap.size ≤ gb260)); clear HB; have HB := n0_; have BK260 := n1_; have GW260 := n2_; have GE260 := n3_; clear n0_ n1_ n2_ n3_; clear hb hbox hg; have hcz21_0 : w20.cell? ⟨gb260, 0, none⟩ = some (.int .u64 a0_0) := (blk_cell BK260.out 0).trans rfl; have hcz21_1 : w20.cell? ⟨gb260, 1, none⟩ = some (.int .u64 a0_1) := (blk_cell BK260.out 1).trans rfl; have hcz21_2 : w20.cell? ⟨gb260, 2, none⟩ = some (.int .u64 a0_2) := (blk_cell BK260.out 2).trans rfl; have hcz21_3 : w20.cell? ⟨gb260, 3, none⟩ = some (.int .u64 a0_3) := (blk_cell BK260.out 3).trans rfl; have hcz21_4 : w20.cell? ⟨gb260, 4, none⟩ = some (.int .i64 a0_4) := (blk_cell BK260.out 4).trans rfl; have hcz21_5 : w20.cell? ⟨gb260, 5, none⟩ = some (.int .i64 a0_5) := (blk_cell BK260.out 5).trans rfl; have hfz21_0 := blk_frozen BK260.out 0; have hfz21_1 := blk_frozen BK260.out 1; have hfz21_2 := blk_frozen BK260.out 2; have hfz21_3 := blk_frozen BK260.out 3; have hfz21_4 := blk_frozen BK260.out 4; have hfz21_5 := blk_frozen BK260.out 5) | ((with_reducible refine gate_callee (f := 23) rfl ?_); refine goesL_ (some 11) rfl rfl Try.func23 (by kernel_rfl) rfl #[.agg #[.int .u64 a0_0, .int .u64 a0_1], .int .u64 a1] rfl (by (try simp only [List.map_toArray, List.map_cons, List.map_nil]); first | done | rfl | (simp only [List.length_drop, List.length_take]; rfl)) ?_; (with_reducible refine (halberdref06_Has.calls k a0_0 a0_1 a1 true _ A3.out).mono ?_); rintro e w22 ⟨rfl, hb⟩; refine ⟨_, rfl, ?_⟩; have n0_ := Aside0.mk (blk_below (g := gb260) (o := .cells #[.int .u64 a0_0, .int .u64 a0_1, .int .u64 a0_2, .int .u64 a0_3, .int .i64 a0_4, .int .i64 a0_5] 26 (0, 0)) (by (with_reducible repeat (first | refine blk_drewN ?_ _ | refine blk_drew ?_ | refine blk_alloc ?_ _)); exact BK260.out) hb); have n1_ := Aside0.mk (below_step (by repeat (first | (with_reducible first | exact HB.out | apply below_alloc | apply pw_below_drewN | apply below_drew1 | refine below_set ?_ GE260.out) | exact HB.out)) hb); clear BK260; clear HB; have BK260 := n0_; have HB := n1_; clear n0_ n1_; (try clear hb); (try clear hb2); (try clear hk); (try clear hi); have hcz23_0 : w22.cell? ⟨gb260, 0, none⟩ = some (.int .u64 a0_0) := (blk_cell BK260.out 0).trans rfl; have hcz23_1 : w22.cell? ⟨gb260, 1, none⟩ = some (.int .u64 a0_1) := (blk_cell BK260.out 1).trans rfl; have hcz23_2 : w22.cell? ⟨gb260, 2, none⟩ = some (.int .u64 a0_2) := (blk_cell BK260.out 2).trans rfl; have hcz23_3 : w22.cell? ⟨gb260, 3, none⟩ = some (.int .u64 a0_3) := (blk_cell BK260.out 3).trans rfl; have hcz23_4 : w22.cell? ⟨gb260, 4, none⟩ = some (.int .i64 a0_4) := (blk_cell BK260.out 4).trans rfl; have hcz23_5 : w22.cell? ⟨gb260, 5, none⟩ = some (.int .i64 a0_5) := (blk_cell BK260.out 5).trans rfl; have hfz23_0 := blk_frozen BK260.out 0; have hfz23_1 := blk_frozen BK260.out 1; have hfz23_2 := blk_frozen BK260.out 2; have hfz23_3 := blk_frozen BK260.out 3; have hfz23_4 := blk_frozen BK260.out 4; have hfz23_5 := blk_frozen BK260.out 5))
   go_ret
   exact ⟨by first | rfl | (simp [errW_none, errW_some] <;> rfl) | (simp [*, errW_none, errW_some] <;> rfl), by repeat (first | (with_reducible first | exact HB.out | apply below_alloc | apply pw_below_drewN | apply below_drew1 | refine below_set ?_ GE260.out) | exact HB.out)⟩
 ·replace c4 := Bool.eq_false_iff.mpr c4
  subst c4
  have H1 : (some false) = some r := by rw [if_neg (show ¬ (false = true) by decide)] at H; exact H
  clear H
  have H := H1
  clear H1
  obtain rfl := Option.some.inj H
  go_enter Try.func9, Try.ntmps9
  go_wp2_with (first | ((with_reducible refine gate_dst (N := 2) rfl ?_); refine box_event ?hg (N := 2) ?hd (cs := #[.int .u64 a0_0, .int .u64 a0_1, .int .u64 a0_2, .int .u64 a0_3, .int .i64 a0_4, .int .i64 a0_5]) (t := 26) ?hr ?_; (case hd => rfl); (case hg => rfl); (case hr => first | (go_simp; done) | (go_simp; rfl)); intro gb260 hg w24 hbox hb; have n0_ := Aside0.mk (below_step (by repeat (first | (with_reducible first | exact HB.out | apply below_alloc | apply pw_below_drewN | apply below_drew1) | exact HB.out)) hb); have n1_ := Aside0.mk (hbox); have n2_ := Aside0.mk ((by rw [hg]; exact (below_size (by repeat (first | (with_reducible first | exact HB.out | apply below_alloc | apply pw_below_drewN | apply below_drew1) | exact HB.out))) : w.heap.size ≤ gb260)); have n3_ := Aside0.mk ((by rw [hg]; exact (below_size (by repeat (first | (with_reducible first | exact HB.out | apply below_alloc | apply pw_below_drewN | apply below_drew1) | exact HB.out))) : w.heap.size ≤ gb260)); clear HB; have HB := n0_; have BK260 := n1_; have GW260 := n2_; have GE260 := n3_; clear n0_ n1_ n2_ n3_; clear hb hbox hg; have hcz25_0 : w24.cell? ⟨gb260, 0, none⟩ = some (.int .u64 a0_0) := (blk_cell BK260.out 0).trans rfl; have hcz25_1 : w24.cell? ⟨gb260, 1, none⟩ = some (.int .u64 a0_1) := (blk_cell BK260.out 1).trans rfl; have hcz25_2 : w24.cell? ⟨gb260, 2, none⟩ = some (.int .u64 a0_2) := (blk_cell BK260.out 2).trans rfl; have hcz25_3 : w24.cell? ⟨gb260, 3, none⟩ = some (.int .u64 a0_3) := (blk_cell BK260.out 3).trans rfl; have hcz25_4 : w24.cell? ⟨gb260, 4, none⟩ = some (.int .i64 a0_4) := (blk_cell BK260.out 4).trans rfl; have hcz25_5 : w24.cell? ⟨gb260, 5, none⟩ = some (.int .i64 a0_5) := (blk_cell BK260.out 5).trans rfl; have hfz25_0 := blk_frozen BK260.out 0; have hfz25_1 := blk_frozen BK260.out 1; have hfz25_2 := blk_frozen BK260.out 2; have hfz25_3 := blk_frozen BK260.out 3; have hfz25_4 := blk_frozen BK260.out 4; have hfz25_5 := blk_frozen BK260.out 5) | ((with_reducible refine gate_callee (f := 23) rfl ?_); refine goesL_ (some 11) rfl rfl Try.func23 (by kernel_rfl) rfl #[.agg #[.int .u64 a0_0, .int .u64 a0_1], .int .u64 a1] rfl (by (try simp only [List.map_toArray, List.map_cons, List.map_nil]); first | done | rfl | (simp only [List.length_drop, List.length_take]; rfl)) ?_; (with_reducible refine (halberdref06_Has.calls k a0_0 a0_1 a1 false _ A3.out).mono ?_); rintro e w26 ⟨rfl, hb⟩; refine ⟨_, rfl, ?_⟩; have n0_ := Aside0.mk (blk_below (g := gb260) (o := .cells #[.int .u64 a0_0, .int .u64 a0_1, .int .u64 a0_2, .int .u64 a0_3, .int .i64 a0_4, .int .i64 a0_5] 26 (0, 0)) (by (with_reducible repeat (first | refine blk_drewN ?_ _ | refine blk_drew ?_ | refine blk_alloc ?_ _)); exact BK260.out) hb); have n1_ := Aside0.mk (below_step (by repeat (first | (with_reducible first | exact HB.out | apply below_alloc | apply pw_below_drewN | apply below_drew1 | refine below_set ?_ GE260.out) | exact HB.out)) hb); clear BK260; clear HB; have BK260 := n0_; have HB := n1_; clear n0_ n1_; (try clear hb); (try clear hb2); (try clear hk); (try clear hi)))
  go_ret
  exact ⟨by first | rfl | (simp [errW_none, errW_some] <;> rfl) | (simp [*, errW_none, errW_some] <;> rfl), by repeat (first | (with_reducible first | exact HB.out | apply below_alloc | apply pw_below_drewN | apply below_drew1 | refine below_set ?_ GE260.out) | exact HB.out)⟩

/-! ### halberdref04_cut: function 24 -/
def halberdref04_cut.f (a0 : Int) (a1 : Bool) : Option (Int) := if a1 = true then (some a0) else (some (Int.tmod a0 4294967296))
set_option maxHeartbeats 8000000 in
set_option maxRecDepth 100000 in
theorem halberdref04_cut.calls (a0 : Int) (a1 : Bool) (r : Int) (w : World) (h : halberdref04_cut.f a0 a1 = some r) :
  Calls Try.prog 24 #[.int .u64 a0, .bool a1] w fun e w' => e = .returned (.int .u64 r) ∧ Drawn0 w w' := by
 have H : (if a1 = true then (some a0) else (some (Int.tmod a0 4294967296))) = some r := h
 clear h
 by_cases c3 : a1 = true
 ·subst c3
  have H1 : (some a0) = some r := by rw [if_pos rfl] at H; exact H
  clear H
  have H := H1
  clear H1
  obtain rfl := Option.some.inj H
  go_enter Try.func24, Try.ntmps24
  go_wp2
  go_ret
  exact ⟨by first | rfl | (simp; done) | (simp [*]; done), by repeat (first | exact Drawn0.refl _ | apply Drawn0.step)⟩
 ·replace c3 := Bool.eq_false_iff.mpr c3
  subst c3
  have H1 : (some (Int.tmod a0 4294967296)) = some r := by rw [if_neg (show ¬ (false = true) by decide)] at H; exact H
  clear H
  have H := H1
  clear H1
  obtain rfl := Option.some.inj H
  go_enter Try.func24, Try.ntmps24
  go_wp2
  go_ret
  exact ⟨by first | rfl | (simp; done) | (simp [*]; done), by repeat (first | exact Drawn0.refl _ | apply Drawn0.step)⟩

/-! ### halberdref01_Power: function 52 -/
def halberdref01_Power.l0 : Nat → Int → Int → Int → Option (Int)
 | 0, _, _, _ => none
 | k + 1, x0, x3, x4 => if x4 < x0 then (halberdref01_Power.l0 k x0 (IntKind.u64.wrap (x3 * 2)) (wrap64 (x4 + 1))) else (some x3)
def halberdref01_Power.f (k : Nat) (a0 : Int) : Option (Int) := halberdref01_Power.l0 k a0 1 0
theorem halberdref01_Power.mono_l : ∀ k, (∀ y0 y1 y2, LeO (halberdref01_Power.l0 k y0 y1 y2) (halberdref01_Power.l0 (k + 1) y0 y1 y2))
 | 0 => fun _ _ _ r h => by simp [halberdref01_Power.l0] at h
 | k + 1 => by
  have ih0 := halberdref01_Power.mono_l k
  ·intro y0 y1 y2
   unfold halberdref01_Power.l0
   repeat' first
   | (with_reducible exact ih0 _ _ _)
   | (with_reducible exact LeO.refl _)
   | (with_reducible exact LeO.none _)
   | (with_reducible refine LeO.ite ?_ ?_)
   | (with_reducible refine LeO.bind ?_ (fun _ => ?_))
   | exact ih0 _ _ _
   | exact LeO.none _
   | refine LeO.ite ?_ ?_
   | refine LeO.bind ?_ (fun _ => ?_)
theorem halberdref01_Power.mono : ∀ a0 k, LeO (halberdref01_Power.f k a0) (halberdref01_Power.f (k + 1) a0) := by
 intro a0 k
 have ih0 := halberdref01_Power.mono_l k
 unfold halberdref01_Power.f
 repeat' first
   | (with_reducible exact ih0 _ _ _)
   | (with_reducible exact LeO.refl _)
   | (with_reducible exact LeO.none _)
   | (with_reducible refine LeO.ite ?_ ?_)
   | (with_reducible refine LeO.bind ?_ (fun _ => ?_))
   | exact ih0 _ _ _
   | exact LeO.none _
   | refine LeO.ite ?_ ?_
   | refine LeO.bind ?_ (fun _ => ?_)
set_option maxHeartbeats 8000000 in
set_option maxRecDepth 100000 in
theorem halberdref01_Power.calls (k : Nat) (a0 : Int) (r : Int) (w : World) (h : halberdref01_Power.f k a0 = some r) :
  Calls Try.prog 52 #[.int .i64 a0] w fun e w' => e = .returned (.int .u64 r) ∧ Drawn0 w w' := by
 have H : (halberdref01_Power.l0 k a0 1 0) = some r := h
 clear h
 have H' := Aside0.mk H
 clear H
 go_enter Try.func52, Try.ntmps52
 go_wp2
 go_loopg [3, 4] k (fun kq v3 v4 w' => ∃ (x3_1 : Int) (x4_1 : Int), v3 = .int .u64 x3_1 ∧ v4 = .int .i64 x4_1 ∧ Aside0 (halberdref01_Power.l0 kq a0 x3_1 x4_1 = some r) ∧ Aside0 (kq ≤ k) ∧ Drawn0 w w')
 case atStart => exact ⟨(1), (0), (by first | rfl | (simp; done) | (simp [*]; done)), (by first | rfl | (simp; done) | (simp [*]; done)), H', ⟨Nat.le_refl _⟩, by repeat (first | exact Drawn0.refl _ | apply Drawn0.step)⟩
 case round =>
  clear H'
  obtain ⟨x3_1, x4_1, rfl, rfl, HA, HK1, ⟨m1, rfl⟩⟩ := hrel
  cases gk with
  | zero => exact absurd HA.out (by simp [halberdref01_Power.l0])
  | succ k1 =>
   have H := HA.out
   clear HA
   simp only [halberdref01_Power.l0] at H
   by_cases c2 : x4_1 < a0
   ·rw [if_pos c2] at H
    have c2b0 : decide (x4_1 < a0) = true := decide_eq_true c2
    clear c2
    have H' := Aside0.mk H
    clear H
    go_wp2
    go_roundg k1
    case measure => have := HK1.out; omega
    case rel => exact ⟨(IntKind.u64.wrap (x3_1 * 2)), (wrap64 (x4_1 + 1)), (by first | rfl | (simp; done) | (simp [*]; done)), (by first | rfl | (simp; done) | (simp [*]; done)), H', ⟨by have := HK1.out; omega⟩, by repeat (first | exact Drawn0.refl _ | apply Drawn0.step)⟩
   ·rw [if_neg c2] at H
    have c2b0 : decide (x4_1 < a0) = false := decide_eq_false c2
    clear c2
    obtain rfl := Option.some.inj H
    go_wp2
    go_ret
    exact ⟨by first | rfl | (simp; done) | (simp [*]; done), by repeat (first | exact Drawn0.refl _ | apply Drawn0.step)⟩

/-! ### halberdref01_Size: function 89 -/
def halberdref01_Size.f (a0 : Int) : Option (Bool) := if a0 = 1 then (some true) else (if a0 = 2 then (some true) else (if a0 = 4 then (some true) else (some (a0 == 8))))
set_option maxHeartbeats 8000000 in
set_option maxRecDepth 100000 in
theorem halberdref01_Size.calls (a0 : Int) (r : Bool) (w : World) (h : halberdref01_Size.f a0 = some r) :
  Calls Try.prog 89 #[.int .i64 a0] w fun e w' => e = .returned (.bool r) ∧ Drawn0 w w' := by
 have H : (if a0 = 1 then (some true) else (if a0 = 2 then (some true) else (if a0 = 4 then (some true) else (some (a0 == 8))))) = some r := h
 clear h
 by_cases c2 : a0 = 1
 ·rw [if_pos c2] at H
  have c2b0 : (a0 == 1) = true := beq_iff_eq.mpr c2
  have c2b1 : (a0 != 1) = false := bne_eq_false_iff_eq.mpr c2
  clear c2
  obtain rfl := Option.some.inj H
  go_enter Try.func89, Try.ntmps89
  go_wp2
  go_ret
  exact ⟨by first | rfl | (simp; done) | (simp [*]; done), by repeat (first | exact Drawn0.refl _ | apply Drawn0.step)⟩
 ·rw [if_neg c2] at H
  have c2b0 : (a0 == 1) = false := beq_eq_false_iff_ne.mpr c2
  have c2b1 : (a0 != 1) = true := bne_iff_ne.mpr c2
  by_cases c3 : a0 = 2
  ·rw [if_pos c3] at H
   have c3b0 : (a0 == 2) = true := beq_iff_eq.mpr c3
   have c3b1 : (a0 != 2) = false := bne_eq_false_iff_eq.mpr c3
   clear c3
   obtain rfl := Option.some.inj H
   go_enter Try.func89, Try.ntmps89
   go_wp2
   go_ret
   exact ⟨by first | rfl | (simp; done) | (simp [*]; done), by repeat (first | exact Drawn0.refl _ | apply Drawn0.step)⟩
  ·rw [if_neg c3] at H
   have c3b0 : (a0 == 2) = false := beq_eq_false_iff_ne.mpr c3
   have c3b1 : (a0 != 2) = true := bne_iff_ne.mpr c3
   by_cases c4 : a0 = 4
   ·rw [if_pos c4] at H
    have c4b0 : (a0 == 4) = true := beq_iff_eq.mpr c4
    have c4b1 : (a0 != 4) = false := bne_eq_false_iff_eq.mpr c4
    clear c4
    obtain rfl := Option.some.inj H
    go_enter Try.func89, Try.ntmps89
    go_wp2
    go_ret
    exact ⟨by first | rfl | (simp; done) | (simp [*]; done), by repeat (first | exact Drawn0.refl _ | apply Drawn0.step)⟩
   ·rw [if_neg c4] at H
    have c4b0 : (a0 == 4) = false := beq_eq_false_iff_ne.mpr c4
    have c4b1 : (a0 != 4) = true := bne_iff_ne.mpr c4
    obtain rfl := Option.some.inj H
    go_enter Try.func89, Try.ntmps89
    go_wp2
    go_ret
    exact ⟨by first | rfl | (simp; done) | (simp [*]; done), by repeat (first | exact Drawn0.refl _ | apply Drawn0.step)⟩

/-! ### halberdref01_Sext: function 57 -/
def halberdref01_Sext.j0 : Nat → Int → Int → Bool → Option (Int)
 | 0, _, _, _ => none
 | k + 1, x0, x1, x12 => if x12 = true then (some x0) else ((halberdref01_Power.f k (wrap64 (8 * x1))).bind fun t263 => (if t263 = 0 then (none) else ((halberdref01_Power.f k (wrap64 ((wrap64 (8 * x1)) - 1))).bind fun t264 => (if (Int.tmod x0 t263) ≥ t264 then ((halberdref01_Power.f k (wrap64 (8 * x1))).bind fun t265 => (some (IntKind.u64.wrap ((Int.tmod x0 t263) - t265)))) else (some (Int.tmod x0 t263))))))
def halberdref01_Sext.f (k : Nat) (a0 : Int) (a1 : Int) : Option (Int) := (halberdref01_Size.f a1).bind fun t262 => (if t262 = true then (halberdref01_Sext.j0 k a0 a1 (a1 == 8)) else (halberdref01_Sext.j0 k a0 a1 true))
theorem halberdref01_Sext.mono_l : ∀ k, (∀ y0 y1 y2, LeO (halberdref01_Sext.j0 k y0 y1 y2) (halberdref01_Sext.j0 (k + 1) y0 y1 y2))
 | 0 => fun _ _ _ r h => by simp [halberdref01_Sext.j0] at h
 | k + 1 => by
  have ih0 := halberdref01_Sext.mono_l k
  ·intro y0 y1 y2
   unfold halberdref01_Sext.j0
   repeat' first
   | (with_reducible exact ih0 _ _ _)
   | (with_reducible exact halberdref01_Power.mono _ _)
   | (with_reducible exact LeO.refl _)
   | (with_reducible exact LeO.none _)
   | (with_reducible refine LeO.ite ?_ ?_)
   | (with_reducible refine LeO.bind ?_ (fun _ => ?_))
   | exact ih0 _ _ _
   | exact halberdref01_Power.mono _ _
   | exact LeO.none _
   | refine LeO.ite ?_ ?_
   | refine LeO.bind ?_ (fun _ => ?_)
theorem halberdref01_Sext.mono : ∀ a0 a1 k, LeO (halberdref01_Sext.f k a0 a1) (halberdref01_Sext.f (k + 1) a0 a1) := by
 intro a0 a1 k
 have ih0 := halberdref01_Sext.mono_l k
 unfold halberdref01_Sext.f
 repeat' first
   | (with_reducible exact ih0 _ _ _)
   | (with_reducible exact halberdref01_Power.mono _ _)
   | (with_reducible exact LeO.refl _)
   | (with_reducible exact LeO.none _)
   | (with_reducible refine LeO.ite ?_ ?_)
   | (with_reducible refine LeO.bind ?_ (fun _ => ?_))
   | exact ih0 _ _ _
   | exact halberdref01_Power.mono _ _
   | exact LeO.none _
   | refine LeO.ite ?_ ?_
   | refine LeO.bind ?_ (fun _ => ?_)
set_option maxHeartbeats 8000000 in
set_option maxRecDepth 100000 in
theorem halberdref01_Sext.calls (k : Nat) (a0 : Int) (a1 : Int) (r : Int) (w : World) (h : halberdref01_Sext.f k a0 a1 = some r) :
  Calls Try.prog 57 #[.int .u64 a0, .int .i64 a1] w fun e w' => e = .returned (.int .u64 r) ∧ Drawn0 w w' := by
 have H : ((halberdref01_Size.f a1).bind fun t262 => (if t262 = true then (halberdref01_Sext.j0 k a0 a1 (a1 == 8)) else (halberdref01_Sext.j0 k a0 a1 true))) = some r := h
 clear h
 have HC3 := Aside0.mk H
 clear H
 go_enter Try.func57, Try.ntmps57
 go_upto_region 1 with (fail)
 go_cut [12] (fun v12 wc => ∃ (kq : Nat) (x12_2 : Bool), v12 = .bool x12_2 ∧ Aside0 (halberdref01_Sext.j0 kq a0 a1 x12_2 = some r) ∧ Aside0 (kq ≤ k) ∧ Drawn0 w wc)
 case first =>
  have H := HC3.out
  clear HC3
  replace H := Option.bind_eq_some_iff.mp H
  obtain ⟨t262, A40, H⟩ := H
  replace H : (if t262 = true then (halberdref01_Sext.j0 k a0 a1 (a1 == 8)) else (halberdref01_Sext.j0 k a0 a1 true)) = some r := H
  have A4 := Aside0.mk A40
  clear A40
  by_cases c5 : t262 = true
  ·subst c5
   have H1 : (halberdref01_Sext.j0 k a0 a1 (a1 == 8)) = some r := by rw [if_pos rfl] at H; exact H
   clear H
   have H := H1
   clear H1
   have H' := Aside0.mk H
   clear H
   go_wp2_with (first | ((with_reducible refine gate_callee (f := 89) rfl ?_); refine goesL_ (some 7) rfl rfl Try.func89 (by kernel_rfl) rfl #[.int .i64 a1] rfl (by (try simp only [List.map_toArray, List.map_cons, List.map_nil]); first | done | rfl | (simp only [List.length_drop, List.length_take]; rfl)) ?_; (with_reducible refine (halberdref01_Size.calls a1 true _ A4.out).mono ?_); rintro e w' ⟨rfl, ⟨nd, rfl⟩⟩; refine ⟨_, rfl, ?_⟩))
   go_meet
   case rel => exact ⟨_, ((a1 == 8)), (by first | rfl | (simp; done) | (simp [*]; done)), H', ⟨by first | omega | exact Nat.le_refl _⟩, by repeat (first | exact Drawn0.refl _ | apply Drawn0.step)⟩
  ·replace c5 := Bool.eq_false_iff.mpr c5
   subst c5
   have H1 : (halberdref01_Sext.j0 k a0 a1 true) = some r := by rw [if_neg (show ¬ (false = true) by decide)] at H; exact H
   clear H
   have H := H1
   clear H1
   have H' := Aside0.mk H
   clear H
   go_wp2_with (first | ((with_reducible refine gate_callee (f := 89) rfl ?_); refine goesL_ (some 7) rfl rfl Try.func89 (by kernel_rfl) rfl #[.int .i64 a1] rfl (by (try simp only [List.map_toArray, List.map_cons, List.map_nil]); first | done | rfl | (simp only [List.length_drop, List.length_take]; rfl)) ?_; (with_reducible refine (halberdref01_Size.calls a1 false _ A4.out).mono ?_); rintro e w' ⟨rfl, ⟨nd, rfl⟩⟩; refine ⟨_, rfl, ?_⟩))
   go_meet
   case rel => exact ⟨_, (true), (by first | rfl | (simp; done) | (simp [*]; done)), H', ⟨by first | omega | exact Nat.le_refl _⟩, by repeat (first | exact Drawn0.refl _ | apply Drawn0.step)⟩
 case rest =>
  clear HC3
  try clear p2
  try clear c5
  obtain ⟨kq, x12_2, rfl, HA, HJ2, ⟨mc2, rfl⟩⟩ := hcut
  cases kq with
  | zero => exact absurd HA.out (by simp [halberdref01_Sext.j0])
  | succ kj2 =>
   have H := HA.out
   clear HA
   simp only [halberdref01_Sext.j0] at H
   by_cases c6 : x12_2 = true
   ·subst c6
    have H1 : (some a0) = some r := by rw [if_pos rfl] at H; exact H
    clear H
    have H := H1
    clear H1
    obtain rfl := Option.some.inj H
    go_wp2
    go_ret
    exact ⟨by first | rfl | (simp; done) | (simp [*]; done), by repeat (first | exact Drawn0.refl _ | apply Drawn0.step)⟩
   ·replace c6 := Bool.eq_false_iff.mpr c6
    subst c6
    have H1 : ((halberdref01_Power.f kj2 (wrap64 (8 * a1))).bind fun t263 => (if t263 = 0 then (none) else ((halberdref01_Power.f kj2 (wrap64 ((wrap64 (8 * a1)) - 1))).bind fun t264 => (if (Int.tmod a0 t263) ≥ t264 then ((halberdref01_Power.f kj2 (wrap64 (8 * a1))).bind fun t265 => (some (IntKind.u64.wrap ((Int.tmod a0 t263) - t265)))) else (some (Int.tmod a0 t263)))))) = some r := by rw [if_neg (show ¬ (false = true) by decide)] at H; exact H
    clear H
    have H := H1
    clear H1
    replace H := Option.bind_eq_some_iff.mp H
    obtain ⟨t263, A70, H⟩ := H
    replace H : (if t263 = 0 then (none) else ((halberdref01_Power.f kj2 (wrap64 ((wrap64 (8 * a1)) - 1))).bind fun t264 => (if (Int.tmod a0 t263) ≥ t264 then ((halberdref01_Power.f kj2 (wrap64 (8 * a1))).bind fun t265 => (some (IntKind.u64.wrap ((Int.tmod a0 t263) - t265)))) else (some (Int.tmod a0 t263))))) = some r := H
    have A7 := Aside0.mk A70
    clear A70
    by_cases c8 : t263 = 0
    ·rw [if_pos c8] at H
     exact absurd H (by simp)
    ·rw [if_neg c8] at H
     have c8b0 : (t263 == 0) = false := beq_eq_false_iff_ne.mpr c8
     have c8b1 : (t263 != 0) = true := bne_iff_ne.mpr c8
     replace H := Option.bind_eq_some_iff.mp H
     obtain ⟨t264, A90, H⟩ := H
     replace H : (if (Int.tmod a0 t263) ≥ t264 then ((halberdref01_Power.f kj2 (wrap64 (8 * a1))).bind fun t265 => (some (IntKind.u64.wrap ((Int.tmod a0 t263) - t265)))) else (some (Int.tmod a0 t263))) = some r := H
     have A9 := Aside0.mk A90
     clear A90
     by_cases c10 : (Int.tmod a0 t263) ≥ t264
     ·rw [if_pos c10] at H
      have c10b0 : decide (t264 ≤ (Int.tmod a0 t263)) = true := decide_eq_true c10
      clear c10
      replace H := Option.bind_eq_some_iff.mp H
      obtain ⟨t265, A110, H⟩ := H
      replace H : (some (IntKind.u64.wrap ((Int.tmod a0 t263) - t265))) = some r := H
      have A11 := Aside0.mk A110
      clear A110
      obtain rfl := Option.some.inj H
      go_wp2_with (first | ((with_reducible refine gate_callee (f := 52) rfl ?_); refine goesL_ (some 17) rfl rfl Try.func52 (by kernel_rfl) rfl #[.int .i64 (wrap64 (8 * a1))] rfl (by (try simp only [List.map_toArray, List.map_cons, List.map_nil]); first | done | rfl | (simp only [List.length_drop, List.length_take]; rfl)) ?_; (with_reducible refine (halberdref01_Power.calls kj2 (wrap64 (8 * a1)) t263 _ A7.out).mono ?_); rintro e w' ⟨rfl, ⟨nd, rfl⟩⟩; refine ⟨_, rfl, ?_⟩) | ((with_reducible refine gate_callee (f := 52) rfl ?_); refine goesL_ (some 23) rfl rfl Try.func52 (by kernel_rfl) rfl #[.int .i64 (wrap64 ((wrap64 (8 * a1)) - 1))] rfl (by (try simp only [List.map_toArray, List.map_cons, List.map_nil]); first | done | rfl | (simp only [List.length_drop, List.length_take]; rfl)) ?_; (with_reducible refine (halberdref01_Power.calls kj2 (wrap64 ((wrap64 (8 * a1)) - 1)) t264 _ A9.out).mono ?_); rintro e w' ⟨rfl, ⟨nd, rfl⟩⟩; refine ⟨_, rfl, ?_⟩) | ((with_reducible refine gate_callee (f := 52) rfl ?_); refine goesL_ (some 28) rfl rfl Try.func52 (by kernel_rfl) rfl #[.int .i64 (wrap64 (8 * a1))] rfl (by (try simp only [List.map_toArray, List.map_cons, List.map_nil]); first | done | rfl | (simp only [List.length_drop, List.length_take]; rfl)) ?_; (with_reducible refine (halberdref01_Power.calls kj2 (wrap64 (8 * a1)) t265 _ A11.out).mono ?_); rintro e w' ⟨rfl, ⟨nd, rfl⟩⟩; refine ⟨_, rfl, ?_⟩))
      go_ret
      exact ⟨by first | rfl | (simp; done) | (simp [*]; done), by repeat (first | exact Drawn0.refl _ | apply Drawn0.step)⟩
     ·rw [if_neg c10] at H
      have c10b0 : decide (t264 ≤ (Int.tmod a0 t263)) = false := decide_eq_false c10
      clear c10
      obtain rfl := Option.some.inj H
      go_wp2_with (first | ((with_reducible refine gate_callee (f := 52) rfl ?_); refine goesL_ (some 17) rfl rfl Try.func52 (by kernel_rfl) rfl #[.int .i64 (wrap64 (8 * a1))] rfl (by (try simp only [List.map_toArray, List.map_cons, List.map_nil]); first | done | rfl | (simp only [List.length_drop, List.length_take]; rfl)) ?_; (with_reducible refine (halberdref01_Power.calls kj2 (wrap64 (8 * a1)) t263 _ A7.out).mono ?_); rintro e w' ⟨rfl, ⟨nd, rfl⟩⟩; refine ⟨_, rfl, ?_⟩) | ((with_reducible refine gate_callee (f := 52) rfl ?_); refine goesL_ (some 23) rfl rfl Try.func52 (by kernel_rfl) rfl #[.int .i64 (wrap64 ((wrap64 (8 * a1)) - 1))] rfl (by (try simp only [List.map_toArray, List.map_cons, List.map_nil]); first | done | rfl | (simp only [List.length_drop, List.length_take]; rfl)) ?_; (with_reducible refine (halberdref01_Power.calls kj2 (wrap64 ((wrap64 (8 * a1)) - 1)) t264 _ A9.out).mono ?_); rintro e w' ⟨rfl, ⟨nd, rfl⟩⟩; refine ⟨_, rfl, ?_⟩))
      go_ret
      exact ⟨by first | rfl | (simp; done) | (simp [*]; done), by repeat (first | exact Drawn0.refl _ | apply Drawn0.step)⟩

/-! ### halberdref04_Signed: function 25 -/
def halberdref04_Signed.f (k : Nat) (a0 : Int) (a1 : Bool) : Option (Int) := if a1 = true then (some (wrap64 (a0))) else ((halberdref01_Sext.f k a0 4).bind fun t266 => (some (wrap64 (t266))))
theorem halberdref04_Signed.mono : ∀ a0 a1 k, LeO (halberdref04_Signed.f k a0 a1) (halberdref04_Signed.f (k + 1) a0 a1) := by
 intro a0 a1 k
 unfold halberdref04_Signed.f
 repeat' first
   | (with_reducible exact halberdref01_Sext.mono _ _ _)
   | (with_reducible exact LeO.refl _)
   | (with_reducible exact LeO.none _)
   | (with_reducible refine LeO.ite ?_ ?_)
   | (with_reducible refine LeO.bind ?_ (fun _ => ?_))
   | exact halberdref01_Sext.mono _ _ _
   | exact LeO.none _
   | refine LeO.ite ?_ ?_
   | refine LeO.bind ?_ (fun _ => ?_)
set_option maxHeartbeats 8000000 in
set_option maxRecDepth 100000 in
theorem halberdref04_Signed.calls (k : Nat) (a0 : Int) (a1 : Bool) (r : Int) (w : World) (h : halberdref04_Signed.f k a0 a1 = some r) :
  Calls Try.prog 25 #[.int .u64 a0, .bool a1] w fun e w' => e = .returned (.int .i64 r) ∧ Drawn0 w w' := by
 have H : (if a1 = true then (some (wrap64 (a0))) else ((halberdref01_Sext.f k a0 4).bind fun t266 => (some (wrap64 (t266))))) = some r := h
 clear h
 by_cases c3 : a1 = true
 ·subst c3
  have H1 : (some (wrap64 (a0))) = some r := by rw [if_pos rfl] at H; exact H
  clear H
  have H := H1
  clear H1
  obtain rfl := Option.some.inj H
  go_enter Try.func25, Try.ntmps25
  go_wp2
  go_ret
  exact ⟨by first | rfl | (simp; done) | (simp [*]; done), by repeat (first | exact Drawn0.refl _ | apply Drawn0.step)⟩
 ·replace c3 := Bool.eq_false_iff.mpr c3
  subst c3
  have H1 : ((halberdref01_Sext.f k a0 4).bind fun t266 => (some (wrap64 (t266)))) = some r := by rw [if_neg (show ¬ (false = true) by decide)] at H; exact H
  clear H
  have H := H1
  clear H1
  replace H := Option.bind_eq_some_iff.mp H
  obtain ⟨t266, A40, H⟩ := H
  replace H : (some (wrap64 (t266))) = some r := H
  have A4 := Aside0.mk A40
  clear A40
  obtain rfl := Option.some.inj H
  go_enter Try.func25, Try.ntmps25
  go_wp2_with (first | ((with_reducible refine gate_callee (f := 57) rfl ?_); refine goesL_ (some 9) rfl rfl Try.func57 (by kernel_rfl) rfl #[.int .u64 a0, .int .i64 4] rfl (by (try simp only [List.map_toArray, List.map_cons, List.map_nil]); first | done | rfl | (simp only [List.length_drop, List.length_take]; rfl)) ?_; (with_reducible refine (halberdref01_Sext.calls k a0 4 t266 _ A4.out).mono ?_); rintro e w' ⟨rfl, ⟨nd, rfl⟩⟩; refine ⟨_, rfl, ?_⟩))
  go_ret
  exact ⟨by first | rfl | (simp; done) | (simp [*]; done), by repeat (first | exact Drawn0.refl _ | apply Drawn0.step)⟩

end Go.Proofs.Ytkgmdcibjjkhlaa.PXferSound
