/- Functions of the program that some laws reach, as Lean functions, and proofs that the program's calls come to what they say: written by a program, for the texts that import it; each theorem bears its own conditions. -/
import Derived.Test.YtdojdjafleaedaaPNarrowSoundx0
import Derived.Test.YtdojdjafleaedaaPNarrowSoundx2
import Derived.Test.YtdojdjafleaedaaPNarrowSoundx3
import Derived.Test.YtdojdjafleaedaaPNarrowSoundx4
namespace Go.Proofs.Ytdojdjafleaedaa.PNarrowSound
open Go.RowKit Go.Proofs.YtdojdjafleaedaaW.PrintWords Go.Proofs.YtdojdjafleaedaaW.PrintLast Go.Proofs.YtdojdjafleaedaaW.PrintMore
attribute [local go_sem] max2_int min2_int max_two min_two max_three min_three max_four min_four   -- for this text's walks alone
set_option linter.unusedVariables false
set_option linter.unusedSimpArgs false

/-! ### narrow_pair_notBelow: function 90 -/
open Go.Proofs.Hp Go.Proofs.Ev
def nw_same (p : NwP) : Option NwP := match p with
 | ⟨a0, a1, a2, a3, a4, a5, b0, b1, b2, b3, b4, b5, nn⟩ => (num_Meet.f a0 a1 a2 a3 a4 a5 b0 b1 b2 b3 b4 b5).bind fun t => some ⟨t.1, t.2.1, t.2.2.1, t.2.2.2.1, t.2.2.2.2.1, t.2.2.2.2.2.1, t.1, t.2.1, t.2.2.1, t.2.2.2.1, t.2.2.2.2.1, t.2.2.2.2.2.1, !t.2.2.2.2.2.2⟩
set_option maxHeartbeats 8000000 in
set_option maxRecDepth 100000 in
theorem nw_same_ok : NwOk 93 nw_same := by
 intro p q gp w0 w L h hO
 obtain ⟨a0, a1, a2, a3, a4, a5, b0, b1, b2, b3, b4, b5, nn⟩ := p
 have HO : Aside0 (Own w0 w ((gp, .cells #[.int .u64 a0, .int .u64 a1, .int .u64 a2, .int .u64 a3, .int .i64 a4, .int .i64 a5, .int .u64 b0, .int .u64 b1, .int .u64 b2, .int .u64 b3, .int .i64 b4, .int .i64 b5, .bool nn] 87 (0, 0)) :: L)) := ⟨hO⟩
 clear hO
 have hup := Try.underlying87
 have hun := Try.underlying36
 have hut := Try.underlying34
 have huu := Try.underlying22
 have hui := Try.underlying2
 have hub := Try.underlying4
 unfold nw_same at h
 obtain ⟨⟨r0, r1, r2, r3, r4, r5, rb⟩, h0, h⟩ := Option.bind_eq_some_iff.mp h
 obtain rfl := Option.some.inj h
 have HM := Aside0.mk h0
 clear h h0
 go_enter Try.func93, Try.ntmps93
 try go_wp2
 refine start_ (n := 15) (S := fun W => Own w0 W ((gp, .cells #[.int .u64 a0, .int .u64 a1, .int .u64 a2, .int .u64 a3, .int .i64 a4, .int .i64 a5, .int .u64 b0, .int .u64 b1, .int .u64 b2, .int .u64 b3, .int .i64 b4, .int .i64 b5, .bool nn] 87 (0, 0)) :: L)) (ds := []) #[false, false, false, false, false, false, false, false, false, false, false, false, false, false, false] (by kernel_rfl) rfl rfl (Own.drew (HO.out)) (fun hHeld => ?_)
 have HO_ := Aside0.mk HO.out.drew
 clear HO
 have HO := HO_
 clear HO_
 generalize World.drew _ = wr at HO hHeld ⊢
 refine pure_ (i := 0) (N := some 5) (v := ?_) (a' := ?_) (up 15 1) rfl rfl (by kernel_rfl) (fun _ _ _ h => h) (Or.inl ⟨by rfl, ?_⟩) ?_ ?_
 rotate_left
 ·intro w'
  go_simp
  with_reducible rfl
 rotate_left
 ·simp only [Act.put, List.setIfInBounds_toArray, List.set_cons_zero, List.set_cons_succ, i64_w, i32_w]
  rfl
 refine pure_ (i := 1) (N := some 6) (v := ?_) (a' := ?_) (up 15 2) rfl rfl (by kernel_rfl) (fun _ _ _ h => h) (Or.inl ⟨by rfl, ?_⟩) ?_ ?_
 rotate_left
 ·intro w'
  go_simp
  with_reducible rfl
 rotate_left
 ·simp only [Act.put, List.setIfInBounds_toArray, List.set_cons_zero, List.set_cons_succ, i64_w, i32_w]
  rfl
 refine pure_ (i := 2) (N := some 7) (v := ?_) (a' := ?_) (up 15 3) rfl rfl (by kernel_rfl) (fun _ _ _ h => h) (Or.inl ⟨by rfl, ?_⟩) ?_ ?_
 rotate_left
 ·intro w'
  go_simp
  with_reducible rfl
 rotate_left
 ·simp only [Act.put, List.setIfInBounds_toArray, List.set_cons_zero, List.set_cons_succ, i64_w, i32_w]
  rfl
 refine take_ (i := 3) (N := some 8) (v := .agg #[.int .u64 a0, .int .u64 a1, .int .u64 a2, .int .u64 a3, .int .i64 a4, .int .i64 a5]) (a' := ?_) (up 15 4) rfl rfl (by kernel_rfl) (fun _ _ _ h => h) (own_yieldN (by rfl) (x := .tmp 7) rfl (by rfl) (.head) (vs := [.int .u64 a0, .int .u64 a1, .int .u64 a2, .int .u64 a3, .int .i64 a4, .int .i64 a5]) (by rfl) hun (by rfl) (by kernel_rfl) rfl) hHeld ?_ ?_
 rotate_left
 ·simp only [Act.put, List.setIfInBounds_toArray, List.set_cons_zero, List.set_cons_succ, i64_w, i32_w]
  rfl
 refine pure_ (i := 4) (N := some 9) (v := ?_) (a' := ?_) (up 15 5) rfl rfl (by kernel_rfl) (fun _ _ _ h => h) (Or.inl ⟨by rfl, ?_⟩) ?_ ?_
 rotate_left
 ·intro w'
  go_simp
  with_reducible rfl
 rotate_left
 ·simp only [Act.put, List.setIfInBounds_toArray, List.set_cons_zero, List.set_cons_succ, i64_w, i32_w]
  rfl
 refine pure_ (i := 5) (N := some 10) (v := ?_) (a' := ?_) (up 15 6) rfl rfl (by kernel_rfl) (fun _ _ _ h => h) (Or.inl ⟨by rfl, ?_⟩) ?_ ?_
 rotate_left
 ·intro w'
  go_simp
  with_reducible rfl
 rotate_left
 ·simp only [Act.put, List.setIfInBounds_toArray, List.set_cons_zero, List.set_cons_succ, i64_w, i32_w]
  rfl
 refine pure_ (i := 6) (N := some 11) (v := ?_) (a' := ?_) (up 15 7) rfl rfl (by kernel_rfl) (fun _ _ _ h => h) (Or.inl ⟨by rfl, ?_⟩) ?_ ?_
 rotate_left
 ·intro w'
  go_simp
  with_reducible rfl
 rotate_left
 ·simp only [Act.put, List.setIfInBounds_toArray, List.set_cons_zero, List.set_cons_succ, i64_w, i32_w]
  rfl
 refine take_ (i := 7) (N := some 12) (v := .agg #[.int .u64 b0, .int .u64 b1, .int .u64 b2, .int .u64 b3, .int .i64 b4, .int .i64 b5]) (a' := ?_) (up 15 8) rfl rfl (by kernel_rfl) (fun _ _ _ h => h) (own_yieldN (by rfl) (x := .tmp 11) rfl (by rfl) (.head) (vs := [.int .u64 b0, .int .u64 b1, .int .u64 b2, .int .u64 b3, .int .i64 b4, .int .i64 b5]) (by rfl) hun (by rfl) (by kernel_rfl) rfl) hHeld ?_ ?_
 rotate_left
 ·simp only [Act.put, List.setIfInBounds_toArray, List.set_cons_zero, List.set_cons_succ, i64_w, i32_w]
  rfl
 refine join_ (σ := Nat) 2 (up 15 13) (fun s_ => [(13, .tuple #[.agg #[.int .u64 r0, .int .u64 r1, .int .u64 r2, .int .u64 r3, .int .i64 r4, .int .i64 r5], .bool rb]), (4, .tuple #[.agg #[.int .u64 r0, .int .u64 r1, .int .u64 r2, .int .u64 r3, .int .i64 r4, .int .i64 r5], .bool rb]), (14, .agg #[.int .u64 r0, .int .u64 r1, .int .u64 r2, .int .u64 r3, .int .i64 r4, .int .i64 r5]), (15, .bool rb), (2, .pointer (some ⟨s_, 0, none⟩))]) (fun s_ w' => Own w0 w' ((s_, .cells #[.int .u64 0, .int .u64 0, .int .u64 0, .int .u64 0, .int .i64 0, .int .i64 0] 36 (0, 0)) :: ((gp, .cells #[.int .u64 a0, .int .u64 a1, .int .u64 a2, .int .u64 a3, .int .i64 a4, .int .i64 a5, .int .u64 b0, .int .u64 b1, .int .u64 b2, .int .u64 b3, .int .i64 b4, .int .i64 b5, .bool nn] 87 (0, 0)) :: L))) ?_ ?_
 rotate_left
 ·intro hCont
  refine two_ (i := 8) (j := 12) (Ni := some 13) (Nj := some 2) (up 15 9) #[true, true, true, true, true, true, true, true, false, false, false, false, true, false, false] rfl rfl rfl rfl (by kernel_rfl) (by decide) (by decide) (fun K hK => ?_) (fun K hK => ?_)
  ·skip
   refine goes_ Try.func21 (by kernel_rfl) rfl #[.agg #[.int .u64 a0, .int .u64 a1, .int .u64 a2, .int .u64 a3, .int .i64 a4, .int .i64 a5], .agg #[.int .u64 b0, .int .u64 b1, .int .u64 b2, .int .u64 b3, .int .i64 b4, .int .i64 b5]] (by rfl) rfl rfl (by (try simp only [List.map_toArray, List.map_cons, List.map_nil]); first | done | rfl) ?_
   refine (num_Meet.calls a0 a1 a2 a3 a4 a5 b0 b1 b2 b3 b4 b5 r0 r1 r2 r3 r4 r5 rb _ HM.out).mono ?_
   rintro e wx ⟨rfl, hb⟩
   refine ⟨_, rfl, ?_⟩
   have hO_ := HO.out.below hb
   clear hb
   clear HO; have HO := Aside0.mk hO_; clear hO_
   refine hK.out _ _ (HO.out) (fun hHeld => ?_)
   clear hK K
   refine norm_ (a' := ?_) ?_ ?_
   rotate_left
   ·show Act.put _ (some 13) _ = _
    simp only [Act.put, List.setIfInBounds_toArray, List.set_cons_zero, List.set_cons_succ, i64_w, i32_w]
    rfl
   refine pure_ (i := 9) (N := some 4) (v := ?_) (a' := ?_) (up 15 10) rfl rfl (by kernel_rfl) (fun _ _ _ h => h) (Or.inl ⟨by rfl, ?_⟩) ?_ ?_
   rotate_left
   ·intro w'
    go_simp
    with_reducible rfl
   rotate_left
   ·simp only [Act.put, List.setIfInBounds_toArray, List.set_cons_zero, List.set_cons_succ, i64_w, i32_w]
    rfl
   refine pure_ (i := 10) (N := some 14) (v := ?_) (a' := ?_) (up 15 11) rfl rfl (by kernel_rfl) (fun _ _ _ h => h) (Or.inl ⟨by rfl, ?_⟩) ?_ ?_
   rotate_left
   ·intro w'
    go_simp
    with_reducible rfl
   rotate_left
   ·simp only [Act.put, List.setIfInBounds_toArray, List.set_cons_zero, List.set_cons_succ, i64_w, i32_w]
    rfl
   refine pure_ (i := 11) (N := some 15) (v := ?_) (a' := ?_) (up 15 12) rfl rfl (by kernel_rfl) (fun _ _ _ h => h) (Or.inl ⟨by rfl, ?_⟩) ?_ ?_
   rotate_left
   ·intro w'
    go_simp
    with_reducible rfl
   rotate_left
   ·simp only [Act.put, List.setIfInBounds_toArray, List.set_cons_zero, List.set_cons_succ, i64_w, i32_w]
    rfl
   refine one_ (i := 12) (N := some 2) (up 15 13) rfl rfl (by kernel_rfl) (by decide) (fun K hK => ?_)
   refine own_box_k HO.out (by rfl) (N := 2) rfl (cs := #[.int .u64 0, .int .u64 0, .int .u64 0, .int .u64 0, .int .i64 0, .int .i64 0]) (t := 36) (by first | (go_simp; done) | (go_simp; rfl) | kernel_rfl) ?_
   intro g2 w2 hO_
   clear HO; have HO := Aside0.mk hO_; clear hO_
   refine hK.out _ _ (HO.out.drop) (fun hHeld => ?_)
   clear hK K
   refine norm_ (a' := ?_) ?_ ?_
   rotate_left
   ·show Act.put _ (some 2) _ = _
    simp only [Act.put, List.setIfInBounds_toArray, List.set_cons_zero, List.set_cons_succ, i64_w, i32_w]
    rfl
   exact norm_ (by simp only [putAll, Act.put, List.setIfInBounds_toArray, List.set_cons_zero, List.set_cons_succ]) (hCont g2 _ HO.out)
  ·skip
   refine own_box_k HO.out (by rfl) (N := 2) rfl (cs := #[.int .u64 0, .int .u64 0, .int .u64 0, .int .u64 0, .int .i64 0, .int .i64 0]) (t := 36) (by first | (go_simp; done) | (go_simp; rfl) | kernel_rfl) ?_
   intro g2 w2 hO_
   clear HO; have HO := Aside0.mk hO_; clear hO_
   refine hK.out _ _ (HO.out.drop) (fun hHeld => ?_)
   clear hK K
   refine norm_ (a' := ?_) ?_ ?_
   rotate_left
   ·show Act.put _ (some 2) _ = _
    simp only [Act.put, List.setIfInBounds_toArray, List.set_cons_zero, List.set_cons_succ, i64_w, i32_w]
    rfl
   refine one_ (i := 8) (N := some 13) #[true, true, true, true, true, true, true, true, true, false, false, false, true, false, false] rfl rfl (by kernel_rfl) (by decide) (fun K hK => ?_)
   refine goes_ Try.func21 (by kernel_rfl) rfl #[.agg #[.int .u64 a0, .int .u64 a1, .int .u64 a2, .int .u64 a3, .int .i64 a4, .int .i64 a5], .agg #[.int .u64 b0, .int .u64 b1, .int .u64 b2, .int .u64 b3, .int .i64 b4, .int .i64 b5]] (by rfl) rfl rfl (by (try simp only [List.map_toArray, List.map_cons, List.map_nil]); first | done | rfl) ?_
   refine (num_Meet.calls a0 a1 a2 a3 a4 a5 b0 b1 b2 b3 b4 b5 r0 r1 r2 r3 r4 r5 rb _ HM.out).mono ?_
   rintro e wx ⟨rfl, hb⟩
   refine ⟨_, rfl, ?_⟩
   have hO_ := HO.out.below hb
   clear hb
   clear HO; have HO := Aside0.mk hO_; clear hO_
   refine hK.out _ _ (HO.out.drop) (fun hHeld => ?_)
   clear hK K
   refine norm_ (a' := ?_) ?_ ?_
   rotate_left
   ·show Act.put _ (some 13) _ = _
    simp only [Act.put, List.setIfInBounds_toArray, List.set_cons_zero, List.set_cons_succ, i64_w, i32_w]
    rfl
   refine pure_ (i := 9) (N := some 4) (v := ?_) (a' := ?_) #[true, true, true, true, true, true, true, true, true, true, false, false, true, false, false] rfl rfl (by kernel_rfl) (fun _ _ _ h => h) (Or.inl ⟨by rfl, ?_⟩) ?_ ?_
   rotate_left
   ·intro w'
    go_simp
    with_reducible rfl
   rotate_left
   ·simp only [Act.put, List.setIfInBounds_toArray, List.set_cons_zero, List.set_cons_succ, i64_w, i32_w]
    rfl
   refine pure_ (i := 10) (N := some 14) (v := ?_) (a' := ?_) #[true, true, true, true, true, true, true, true, true, true, true, false, true, false, false] rfl rfl (by kernel_rfl) (fun _ _ _ h => h) (Or.inl ⟨by rfl, ?_⟩) ?_ ?_
   rotate_left
   ·intro w'
    go_simp
    with_reducible rfl
   rotate_left
   ·simp only [Act.put, List.setIfInBounds_toArray, List.set_cons_zero, List.set_cons_succ, i64_w, i32_w]
    rfl
   refine pure_ (i := 11) (N := some 15) (v := ?_) (a' := ?_) (up 15 13) rfl rfl (by kernel_rfl) (fun _ _ _ h => h) (Or.inl ⟨by rfl, ?_⟩) ?_ ?_
   rotate_left
   ·intro w'
    go_simp
    with_reducible rfl
   rotate_left
   ·simp only [Act.put, List.setIfInBounds_toArray, List.set_cons_zero, List.set_cons_succ, i64_w, i32_w]
    rfl
   exact norm_ (by simp only [putAll, Act.put, List.setIfInBounds_toArray, List.set_cons_zero, List.set_cons_succ]) (hCont g2 _ HO.out)
 intro g2 wj hO_
 clear HO
 have HO := Aside0.mk hO_
 have hHeld := HO.out.drop
 clear hO_
 refine norm_ (a' := ?_) ?_ ?_
 rotate_left
 ·simp only [putAll, Act.put, List.setIfInBounds_toArray, List.set_cons_zero, List.set_cons_succ]
  rfl
 refine one_ (i := 13) (N := none) (up 15 14) rfl rfl (by kernel_rfl) (by decide) (fun K hK => ?_)
 refine own_storeN_k HO.out (by rfl) rfl (ty := 36) (x := .tmp 2) (y := .tmp 14) (vs := #[.int .u64 r0, .int .u64 r1, .int .u64 r2, .int .u64 r3, .int .i64 r4, .int .i64 r5]) (cs' := #[.int .u64 r0, .int .u64 r1, .int .u64 r2, .int .u64 r3, .int .i64 r4, .int .i64 r5]) rfl (by rfl) (by rfl) (.head) (by kernel_rfl) (by kernel_rfl) (by first | decide | (simp; done)) (by rfl) ?_
 intro wc hO_
 clear HO; have HO := Aside0.mk hO_; clear hO_
 refine hK.out _ _ (HO.out.drop) (fun hHeld => ?_)
 clear hK K
 refine pure_ (i := 14) (N := some 3) (v := ?_) (a' := ?_) (up 15 15) rfl rfl (by kernel_rfl) (fun _ _ _ h => h) (Or.inl ⟨by rfl, ?_⟩) ?_ ?_
 rotate_left
 ·intro w'
  go_simp
  with_reducible rfl
 rotate_left
 ·simp only [Act.put, List.setIfInBounds_toArray, List.set_cons_zero, List.set_cons_succ, i64_w, i32_w]
  rfl
 refine done_ (by kernel_rfl) ?_
 clear hHeld
 try go_wp2
 refine start_ (n := 16) (S := fun W => Own w0 W ((g2, .cells #[.int .u64 r0, .int .u64 r1, .int .u64 r2, .int .u64 r3, .int .i64 r4, .int .i64 r5] 36 (0, 0)) :: [])) (ds := []) #[false, false, false, false, false, false, false, false, false, false, false, false, false, false, false, false] (by kernel_rfl) rfl rfl (Own.drew (HO.out.picks (.cons (by (repeat (first | exact .head | apply Ext.tail))) (.nil)))) (fun hHeld => ?_)
 have HO_ := Aside0.mk HO.out.drew
 clear HO
 have HO := HO_
 clear HO_
 generalize World.drew _ = wr at HO hHeld ⊢
 refine pure_ (i := 0) (N := some 16) (v := ?_) (a' := ?_) (up 16 1) rfl rfl (by kernel_rfl) (fun _ _ _ h => h) (Or.inl ⟨by rfl, ?_⟩) ?_ ?_
 rotate_left
 ·intro w'
  go_simp
  with_reducible rfl
 rotate_left
 ·simp only [Act.put, List.setIfInBounds_toArray, List.set_cons_zero, List.set_cons_succ, i64_w, i32_w]
  rfl
 refine pure_ (i := 1) (N := some 17) (v := ?_) (a' := ?_) (up 16 2) rfl rfl (by kernel_rfl) (fun _ _ _ h => h) (Or.inl ⟨by rfl, ?_⟩) ?_ ?_
 rotate_left
 ·intro w'
  go_simp
  with_reducible rfl
 rotate_left
 ·simp only [Act.put, List.setIfInBounds_toArray, List.set_cons_zero, List.set_cons_succ, i64_w, i32_w]
  rfl
 refine pure_ (i := 2) (N := some 18) (v := ?_) (a' := ?_) (up 16 3) rfl rfl (by kernel_rfl) (fun _ _ _ h => h) (Or.inl ⟨by rfl, ?_⟩) ?_ ?_
 rotate_left
 ·intro w'
  go_simp
  with_reducible rfl
 rotate_left
 ·simp only [Act.put, List.setIfInBounds_toArray, List.set_cons_zero, List.set_cons_succ, i64_w, i32_w]
  rfl
 refine take_ (i := 3) (N := some 19) (v := .agg #[.int .u64 r0, .int .u64 r1, .int .u64 r2, .int .u64 r3, .int .i64 r4, .int .i64 r5]) (a' := ?_) (up 16 4) rfl rfl (by kernel_rfl) (fun _ _ _ h => h) (own_yieldN (by rfl) (x := .tmp 2) rfl (by rfl) (.head) (vs := [.int .u64 r0, .int .u64 r1, .int .u64 r2, .int .u64 r3, .int .i64 r4, .int .i64 r5]) (by rfl) hun (by rfl) (by kernel_rfl) rfl) hHeld ?_ ?_
 rotate_left
 ·simp only [Act.put, List.setIfInBounds_toArray, List.set_cons_zero, List.set_cons_succ, i64_w, i32_w]
  rfl
 refine take_ (i := 4) (N := some 20) (v := .agg #[.int .u64 r0, .int .u64 r1, .int .u64 r2, .int .u64 r3, .int .i64 r4, .int .i64 r5]) (a' := ?_) (up 16 5) rfl rfl (by kernel_rfl) (fun _ _ _ h => h) (own_yieldN (by rfl) (x := .tmp 2) rfl (by rfl) (.head) (vs := [.int .u64 r0, .int .u64 r1, .int .u64 r2, .int .u64 r3, .int .i64 r4, .int .i64 r5]) (by rfl) hun (by rfl) (by kernel_rfl) rfl) hHeld ?_ ?_
 rotate_left
 ·simp only [Act.put, List.setIfInBounds_toArray, List.set_cons_zero, List.set_cons_succ, i64_w, i32_w]
  rfl
 refine pure_ (i := 5) (N := some 21) (v := ?_) (a' := ?_) (up 16 6) rfl rfl (by kernel_rfl) (fun _ _ _ h => h) (Or.inl ⟨by rfl, ?_⟩) ?_ ?_
 rotate_left
 ·intro w'
  go_simp
  with_reducible rfl
 rotate_left
 ·simp only [Act.put, List.setIfInBounds_toArray, List.set_cons_zero, List.set_cons_succ, i64_w, i32_w]
  rfl
 refine pure_ (i := 6) (N := some 22) (v := ?_) (a' := ?_) (up 16 7) rfl rfl (by kernel_rfl) (fun _ _ _ h => h) (Or.inl ⟨by rfl, ?_⟩) ?_ ?_
 rotate_left
 ·intro w'
  go_simp
  with_reducible rfl
 rotate_left
 ·simp only [Act.put, List.setIfInBounds_toArray, List.set_cons_zero, List.set_cons_succ, i64_w, i32_w]
  rfl
 refine pure_ (i := 7) (N := some 23) (v := ?_) (a' := ?_) (up 16 8) rfl rfl (by kernel_rfl) (fun _ _ _ h => h) (Or.inl ⟨by rfl, ?_⟩) ?_ ?_
 rotate_left
 ·intro w'
  go_simp
  with_reducible rfl
 rotate_left
 ·simp only [Act.put, List.setIfInBounds_toArray, List.set_cons_zero, List.set_cons_succ, i64_w, i32_w]
  rfl
 refine pure_ (i := 8) (N := some 24) (v := ?_) (a' := ?_) (up 16 9) rfl rfl (by kernel_rfl) (fun _ _ _ h => h) (Or.inl ⟨by rfl, ?_⟩) ?_ ?_
 rotate_left
 ·intro w'
  go_simp
  with_reducible rfl
 rotate_left
 ·simp only [Act.put, List.setIfInBounds_toArray, List.set_cons_zero, List.set_cons_succ, i64_w, i32_w]
  rfl
 refine one_ (i := 9) (N := none) (up 16 10) rfl rfl (by kernel_rfl) (by decide) (fun K hK => ?_)
 refine own_storeN_k HO.out (by rfl) rfl (ty := 36) (x := .tmp 24) (y := .tmp 19) (vs := #[.int .u64 r0, .int .u64 r1, .int .u64 r2, .int .u64 r3, .int .i64 r4, .int .i64 r5]) (cs' := #[.int .u64 r0, .int .u64 r1, .int .u64 r2, .int .u64 r3, .int .i64 r4, .int .i64 r5, .int .u64 b0, .int .u64 b1, .int .u64 b2, .int .u64 b3, .int .i64 b4, .int .i64 b5, .bool nn]) rfl (by rfl) (by rfl) (.tail .head) (by kernel_rfl) (by kernel_rfl) (by first | decide | (simp; done)) (by rfl) ?_
 intro wc hO_
 clear HO; have HO := Aside0.mk hO_; clear hO_
 refine hK.out _ _ (HO.out.picks (.cons (by (repeat (first | exact .head | apply Ext.tail))) (.nil))) (fun hHeld => ?_)
 clear hK K
 refine pure_ (i := 10) (N := some 25) (v := ?_) (a' := ?_) (up 16 11) rfl rfl (by kernel_rfl) (fun _ _ _ h => h) (Or.inl ⟨by rfl, ?_⟩) ?_ ?_
 rotate_left
 ·intro w'
  go_simp
  with_reducible rfl
 rotate_left
 ·simp only [Act.put, List.setIfInBounds_toArray, List.set_cons_zero, List.set_cons_succ, i64_w, i32_w]
  rfl
 refine pure_ (i := 11) (N := some 26) (v := ?_) (a' := ?_) (up 16 12) rfl rfl (by kernel_rfl) (fun _ _ _ h => h) (Or.inl ⟨by rfl, ?_⟩) ?_ ?_
 rotate_left
 ·intro w'
  go_simp
  with_reducible rfl
 rotate_left
 ·simp only [Act.put, List.setIfInBounds_toArray, List.set_cons_zero, List.set_cons_succ, i64_w, i32_w]
  rfl
 refine one_ (i := 12) (N := none) (up 16 13) rfl rfl (by kernel_rfl) (by decide) (fun K hK => ?_)
 refine own_storeN_k HO.out (by rfl) rfl (ty := 36) (x := .tmp 26) (y := .tmp 20) (vs := #[.int .u64 r0, .int .u64 r1, .int .u64 r2, .int .u64 r3, .int .i64 r4, .int .i64 r5]) (cs' := #[.int .u64 r0, .int .u64 r1, .int .u64 r2, .int .u64 r3, .int .i64 r4, .int .i64 r5, .int .u64 r0, .int .u64 r1, .int .u64 r2, .int .u64 r3, .int .i64 r4, .int .i64 r5, .bool nn]) rfl (by rfl) (by rfl) (.head) (by kernel_rfl) (by kernel_rfl) (by first | decide | (simp; done)) (by rfl) ?_
 intro wc hO_
 clear HO; have HO := Aside0.mk hO_; clear hO_
 refine hK.out _ _ (HO.out.picks (.cons (by (repeat (first | exact .head | apply Ext.tail))) (.nil))) (fun hHeld => ?_)
 clear hK K
 refine pure_ (i := 13) (N := some 27) (v := ?_) (a' := ?_) (up 16 14) rfl rfl (by kernel_rfl) (fun _ _ _ h => h) (Or.inl ⟨by rfl, ?_⟩) ?_ ?_
 rotate_left
 ·intro w'
  go_simp
  with_reducible rfl
 rotate_left
 ·simp only [Act.put, List.setIfInBounds_toArray, List.set_cons_zero, List.set_cons_succ, i64_w, i32_w]
  rfl
 refine pure_ (i := 14) (N := some 28) (v := ?_) (a' := ?_) (up 16 15) rfl rfl (by kernel_rfl) (fun _ _ _ h => h) (Or.inl ⟨by rfl, ?_⟩) ?_ ?_
 rotate_left
 ·intro w'
  go_simp
  with_reducible rfl
 rotate_left
 ·simp only [Act.put, List.setIfInBounds_toArray, List.set_cons_zero, List.set_cons_succ, i64_w, i32_w]
  rfl
 refine one_ (i := 15) (N := none) (up 16 16) rfl rfl (by kernel_rfl) (by decide) (fun K hK => ?_)
 refine own_store_k HO.out (by rfl) rfl (ty := 4) (x := .tmp 28) (y := .tmp 22) (v := .bool (!rb)) (cs' := #[.int .u64 r0, .int .u64 r1, .int .u64 r2, .int .u64 r3, .int .i64 r4, .int .i64 r5, .int .u64 r0, .int .u64 r1, .int .u64 r2, .int .u64 r3, .int .i64 r4, .int .i64 r5, .bool (!rb)]) rfl (by rfl) (by rfl) (.head) (by kernel_rfl) (by rfl) (by first | decide | (simp; done)) (by rfl) ?_
 intro wc hO_
 clear HO; have HO := Aside0.mk hO_; clear hO_
 refine hK.out _ _ (HO.out.picks (.cons (by (repeat (first | exact .head | apply Ext.tail))) (.nil))) (fun hHeld => ?_)
 clear hK K
 refine done_ (by kernel_rfl) ?_
 clear hHeld
 (first | go_end0 | refine bodyPost_ret (results_none rfl _ _ _) rfl ?_)
 exact ⟨rfl, HO.out.twoz.drop⟩
def nw_meet (t0 t1 : Int) (p : NwP) : Option NwP := match p with
 | ⟨a0, a1, a2, a3, a4, a5, b0, b1, b2, b3, b4, b5, nn⟩ => (tnum_Meet.f a0 a1 t0 t1).bind fun t => some ⟨t.1, t.2.1, a2, a3, a4, a5, b0, b1, b2, b3, b4, b5, !t.2.2⟩
set_option maxHeartbeats 8000000 in
set_option maxRecDepth 100000 in
theorem nw_meet_calls (t0 t1 : Int) (p q : NwP) (gp : Nat) (w0 w : World) (L : Hl) (h : nw_meet t0 t1 p = some q) (hO : Own w0 w ((gp, p.obj) :: L)) : Calls Try.prog 106 #[.pointer (some ⟨gp, 0, none⟩), .agg #[.int .u64 t0, .int .u64 t1]] w fun e w' => e = .returned (.tuple #[]) ∧ Own w0 w' ((gp, q.obj) :: L) := by
 obtain ⟨a0, a1, a2, a3, a4, a5, b0, b1, b2, b3, b4, b5, nn⟩ := p
 have HO : Aside0 (Own w0 w ((gp, .cells #[.int .u64 a0, .int .u64 a1, .int .u64 a2, .int .u64 a3, .int .i64 a4, .int .i64 a5, .int .u64 b0, .int .u64 b1, .int .u64 b2, .int .u64 b3, .int .i64 b4, .int .i64 b5, .bool nn] 87 (0, 0)) :: L)) := ⟨hO⟩
 clear hO
 have hup := Try.underlying87
 have hun := Try.underlying36
 have hut := Try.underlying34
 have huu := Try.underlying22
 have hui := Try.underlying2
 have hub := Try.underlying4
 unfold nw_meet at h
 obtain ⟨⟨r0, r1, rb⟩, h0, h⟩ := Option.bind_eq_some_iff.mp h
 obtain rfl := Option.some.inj h
 have HM := Aside0.mk h0
 clear h h0
 go_enter Try.func106, Try.ntmps106
 go_wp2_with (first | ((with_reducible refine gate_dst (N := 3) rfl ?_); refine own_box HO.out ?hg (N := 3) ?hd (cs := #[.int .u64 t0, .int .u64 t1]) (t := 34) ?hr ?_; (case hd => rfl); (case hg => rfl); (case hr => first | (go_simp; done) | (go_simp; rfl) | kernel_rfl); intro g3 w3 hO_; clear HO; have HO := Aside0.mk hO_; clear hO_))
 refine start_ (n := 13) (S := fun W => Own w0 W ((g3, .cells #[.int .u64 t0, .int .u64 t1] 34 (0, 0)) :: ((gp, .cells #[.int .u64 a0, .int .u64 a1, .int .u64 a2, .int .u64 a3, .int .i64 a4, .int .i64 a5, .int .u64 b0, .int .u64 b1, .int .u64 b2, .int .u64 b3, .int .i64 b4, .int .i64 b5, .bool nn] 87 (0, 0)) :: L))) (ds := []) #[false, false, false, false, false, false, false, false, false, false, false, false, false] (by kernel_rfl) rfl rfl (Own.drew (HO.out)) (fun hHeld => ?_)
 have HO_ := Aside0.mk HO.out.drew
 clear HO
 have HO := HO_
 clear HO_
 generalize World.drew _ = wr at HO hHeld ⊢
 refine pure_ (i := 0) (N := some 7) (v := ?_) (a' := ?_) (up 13 1) rfl rfl (by kernel_rfl) (fun _ _ _ h => h) (Or.inl ⟨by rfl, ?_⟩) ?_ ?_
 rotate_left
 ·intro w'
  go_simp
  with_reducible rfl
 rotate_left
 ·simp only [Act.put, List.setIfInBounds_toArray, List.set_cons_zero, List.set_cons_succ, i64_w, i32_w]
  rfl
 refine pure_ (i := 1) (N := some 8) (v := ?_) (a' := ?_) (up 13 2) rfl rfl (by kernel_rfl) (fun _ _ _ h => h) (Or.inl ⟨by rfl, ?_⟩) ?_ ?_
 rotate_left
 ·intro w'
  go_simp
  with_reducible rfl
 rotate_left
 ·simp only [Act.put, List.setIfInBounds_toArray, List.set_cons_zero, List.set_cons_succ, i64_w, i32_w]
  rfl
 refine pure_ (i := 2) (N := some 9) (v := ?_) (a' := ?_) (up 13 3) rfl rfl (by kernel_rfl) (fun _ _ _ h => h) (Or.inl ⟨by rfl, ?_⟩) ?_ ?_
 rotate_left
 ·intro w'
  go_simp
  with_reducible rfl
 rotate_left
 ·simp only [Act.put, List.setIfInBounds_toArray, List.set_cons_zero, List.set_cons_succ, i64_w, i32_w]
  rfl
 refine pure_ (i := 3) (N := some 10) (v := ?_) (a' := ?_) (up 13 4) rfl rfl (by kernel_rfl) (fun _ _ _ h => h) (Or.inl ⟨by rfl, ?_⟩) ?_ ?_
 rotate_left
 ·intro w'
  go_simp
  with_reducible rfl
 rotate_left
 ·simp only [Act.put, List.setIfInBounds_toArray, List.set_cons_zero, List.set_cons_succ, i64_w, i32_w]
  rfl
 refine take_ (i := 4) (N := some 11) (v := .agg #[.int .u64 a0, .int .u64 a1]) (a' := ?_) (up 13 5) rfl rfl (by kernel_rfl) (fun _ _ _ h => h) (own_yieldN (by rfl) (x := .tmp 10) rfl (by rfl) (.tail .head) (vs := [.int .u64 a0, .int .u64 a1]) (by rfl) hut (by rfl) (by kernel_rfl) rfl) hHeld ?_ ?_
 rotate_left
 ·simp only [Act.put, List.setIfInBounds_toArray, List.set_cons_zero, List.set_cons_succ, i64_w, i32_w]
  rfl
 refine take_ (i := 5) (N := some 12) (v := .agg #[.int .u64 t0, .int .u64 t1]) (a' := ?_) (up 13 6) rfl rfl (by kernel_rfl) (fun _ _ _ h => h) (own_yieldN (by rfl) (x := .tmp 3) rfl (by rfl) (.head) (vs := [.int .u64 t0, .int .u64 t1]) (by rfl) hut (by rfl) (by kernel_rfl) rfl) hHeld ?_ ?_
 rotate_left
 ·simp only [Act.put, List.setIfInBounds_toArray, List.set_cons_zero, List.set_cons_succ, i64_w, i32_w]
  rfl
 refine join_ (σ := Nat) 2 (up 13 11) (fun s_ => [(13, .tuple #[.agg #[.int .u64 r0, .int .u64 r1], .bool rb]), (6, .tuple #[.agg #[.int .u64 r0, .int .u64 r1], .bool rb]), (14, .agg #[.int .u64 r0, .int .u64 r1]), (15, .bool rb), (4, .pointer (some ⟨s_, 0, none⟩))]) (fun s_ w' => Own w0 w' ((s_, .cells #[.int .u64 0, .int .u64 0] 34 (0, 0)) :: ((g3, .cells #[.int .u64 t0, .int .u64 t1] 34 (0, 0)) :: ((gp, .cells #[.int .u64 a0, .int .u64 a1, .int .u64 a2, .int .u64 a3, .int .i64 a4, .int .i64 a5, .int .u64 b0, .int .u64 b1, .int .u64 b2, .int .u64 b3, .int .i64 b4, .int .i64 b5, .bool nn] 87 (0, 0)) :: L)))) ?_ ?_
 rotate_left
 ·intro hCont
  refine two_ (i := 6) (j := 10) (Ni := some 13) (Nj := some 4) (up 13 7) #[true, true, true, true, true, true, false, false, false, false, true, false, false] rfl rfl rfl rfl (by kernel_rfl) (by decide) (by decide) (fun K hK => ?_) (fun K hK => ?_)
  ·skip
   refine goes_ Try.func57 (by kernel_rfl) rfl #[.agg #[.int .u64 a0, .int .u64 a1], .agg #[.int .u64 t0, .int .u64 t1]] (by rfl) rfl rfl (by (try simp only [List.map_toArray, List.map_cons, List.map_nil]); first | done | rfl) ?_
   refine (tnum_Meet.calls a0 a1 t0 t1 r0 r1 rb _ HM.out).mono ?_
   rintro e wx ⟨rfl, hb⟩
   refine ⟨_, rfl, ?_⟩
   have hO_ := HO.out.below hb
   clear hb
   clear HO; have HO := Aside0.mk hO_; clear hO_
   refine hK.out _ _ (HO.out) (fun hHeld => ?_)
   clear hK K
   refine norm_ (a' := ?_) ?_ ?_
   rotate_left
   ·show Act.put _ (some 13) _ = _
    simp only [Act.put, List.setIfInBounds_toArray, List.set_cons_zero, List.set_cons_succ, i64_w, i32_w]
    rfl
   refine pure_ (i := 7) (N := some 6) (v := ?_) (a' := ?_) (up 13 8) rfl rfl (by kernel_rfl) (fun _ _ _ h => h) (Or.inl ⟨by rfl, ?_⟩) ?_ ?_
   rotate_left
   ·intro w'
    go_simp
    with_reducible rfl
   rotate_left
   ·simp only [Act.put, List.setIfInBounds_toArray, List.set_cons_zero, List.set_cons_succ, i64_w, i32_w]
    rfl
   refine pure_ (i := 8) (N := some 14) (v := ?_) (a' := ?_) (up 13 9) rfl rfl (by kernel_rfl) (fun _ _ _ h => h) (Or.inl ⟨by rfl, ?_⟩) ?_ ?_
   rotate_left
   ·intro w'
    go_simp
    with_reducible rfl
   rotate_left
   ·simp only [Act.put, List.setIfInBounds_toArray, List.set_cons_zero, List.set_cons_succ, i64_w, i32_w]
    rfl
   refine pure_ (i := 9) (N := some 15) (v := ?_) (a' := ?_) (up 13 10) rfl rfl (by kernel_rfl) (fun _ _ _ h => h) (Or.inl ⟨by rfl, ?_⟩) ?_ ?_
   rotate_left
   ·intro w'
    go_simp
    with_reducible rfl
   rotate_left
   ·simp only [Act.put, List.setIfInBounds_toArray, List.set_cons_zero, List.set_cons_succ, i64_w, i32_w]
    rfl
   refine one_ (i := 10) (N := some 4) (up 13 11) rfl rfl (by kernel_rfl) (by decide) (fun K hK => ?_)
   refine own_box_k HO.out (by rfl) (N := 4) rfl (cs := #[.int .u64 0, .int .u64 0]) (t := 34) (by first | (go_simp; done) | (go_simp; rfl) | kernel_rfl) ?_
   intro g4 w4 hO_
   clear HO; have HO := Aside0.mk hO_; clear hO_
   refine hK.out _ _ (HO.out.drop) (fun hHeld => ?_)
   clear hK K
   refine norm_ (a' := ?_) ?_ ?_
   rotate_left
   ·show Act.put _ (some 4) _ = _
    simp only [Act.put, List.setIfInBounds_toArray, List.set_cons_zero, List.set_cons_succ, i64_w, i32_w]
    rfl
   exact norm_ (by simp only [putAll, Act.put, List.setIfInBounds_toArray, List.set_cons_zero, List.set_cons_succ]) (hCont g4 _ HO.out)
  ·skip
   refine own_box_k HO.out (by rfl) (N := 4) rfl (cs := #[.int .u64 0, .int .u64 0]) (t := 34) (by first | (go_simp; done) | (go_simp; rfl) | kernel_rfl) ?_
   intro g4 w4 hO_
   clear HO; have HO := Aside0.mk hO_; clear hO_
   refine hK.out _ _ (HO.out.drop) (fun hHeld => ?_)
   clear hK K
   refine norm_ (a' := ?_) ?_ ?_
   rotate_left
   ·show Act.put _ (some 4) _ = _
    simp only [Act.put, List.setIfInBounds_toArray, List.set_cons_zero, List.set_cons_succ, i64_w, i32_w]
    rfl
   refine one_ (i := 6) (N := some 13) #[true, true, true, true, true, true, true, false, false, false, true, false, false] rfl rfl (by kernel_rfl) (by decide) (fun K hK => ?_)
   refine goes_ Try.func57 (by kernel_rfl) rfl #[.agg #[.int .u64 a0, .int .u64 a1], .agg #[.int .u64 t0, .int .u64 t1]] (by rfl) rfl rfl (by (try simp only [List.map_toArray, List.map_cons, List.map_nil]); first | done | rfl) ?_
   refine (tnum_Meet.calls a0 a1 t0 t1 r0 r1 rb _ HM.out).mono ?_
   rintro e wx ⟨rfl, hb⟩
   refine ⟨_, rfl, ?_⟩
   have hO_ := HO.out.below hb
   clear hb
   clear HO; have HO := Aside0.mk hO_; clear hO_
   refine hK.out _ _ (HO.out.drop) (fun hHeld => ?_)
   clear hK K
   refine norm_ (a' := ?_) ?_ ?_
   rotate_left
   ·show Act.put _ (some 13) _ = _
    simp only [Act.put, List.setIfInBounds_toArray, List.set_cons_zero, List.set_cons_succ, i64_w, i32_w]
    rfl
   refine pure_ (i := 7) (N := some 6) (v := ?_) (a' := ?_) #[true, true, true, true, true, true, true, true, false, false, true, false, false] rfl rfl (by kernel_rfl) (fun _ _ _ h => h) (Or.inl ⟨by rfl, ?_⟩) ?_ ?_
   rotate_left
   ·intro w'
    go_simp
    with_reducible rfl
   rotate_left
   ·simp only [Act.put, List.setIfInBounds_toArray, List.set_cons_zero, List.set_cons_succ, i64_w, i32_w]
    rfl
   refine pure_ (i := 8) (N := some 14) (v := ?_) (a' := ?_) #[true, true, true, true, true, true, true, true, true, false, true, false, false] rfl rfl (by kernel_rfl) (fun _ _ _ h => h) (Or.inl ⟨by rfl, ?_⟩) ?_ ?_
   rotate_left
   ·intro w'
    go_simp
    with_reducible rfl
   rotate_left
   ·simp only [Act.put, List.setIfInBounds_toArray, List.set_cons_zero, List.set_cons_succ, i64_w, i32_w]
    rfl
   refine pure_ (i := 9) (N := some 15) (v := ?_) (a' := ?_) (up 13 11) rfl rfl (by kernel_rfl) (fun _ _ _ h => h) (Or.inl ⟨by rfl, ?_⟩) ?_ ?_
   rotate_left
   ·intro w'
    go_simp
    with_reducible rfl
   rotate_left
   ·simp only [Act.put, List.setIfInBounds_toArray, List.set_cons_zero, List.set_cons_succ, i64_w, i32_w]
    rfl
   exact norm_ (by simp only [putAll, Act.put, List.setIfInBounds_toArray, List.set_cons_zero, List.set_cons_succ]) (hCont g4 _ HO.out)
 intro g4 wj hO_
 clear HO
 have HO := Aside0.mk hO_
 have hHeld := HO.out.drop
 clear hO_
 refine norm_ (a' := ?_) ?_ ?_
 rotate_left
 ·simp only [putAll, Act.put, List.setIfInBounds_toArray, List.set_cons_zero, List.set_cons_succ]
  rfl
 refine one_ (i := 11) (N := none) (up 13 12) rfl rfl (by kernel_rfl) (by decide) (fun K hK => ?_)
 refine own_storeN_k HO.out (by rfl) rfl (ty := 34) (x := .tmp 4) (y := .tmp 14) (vs := #[.int .u64 r0, .int .u64 r1]) (cs' := #[.int .u64 r0, .int .u64 r1]) rfl (by rfl) (by rfl) (.head) (by kernel_rfl) (by kernel_rfl) (by first | decide | (simp; done)) (by rfl) ?_
 intro wc hO_
 clear HO; have HO := Aside0.mk hO_; clear hO_
 refine hK.out _ _ (HO.out.drop) (fun hHeld => ?_)
 clear hK K
 refine pure_ (i := 12) (N := some 5) (v := ?_) (a' := ?_) (up 13 13) rfl rfl (by kernel_rfl) (fun _ _ _ h => h) (Or.inl ⟨by rfl, ?_⟩) ?_ ?_
 rotate_left
 ·intro w'
  go_simp
  with_reducible rfl
 rotate_left
 ·simp only [Act.put, List.setIfInBounds_toArray, List.set_cons_zero, List.set_cons_succ, i64_w, i32_w]
  rfl
 refine done_ (by kernel_rfl) ?_
 clear hHeld
 go_wp2_with (first | ((with_reducible refine gate_dst (N := 18) rfl ?_); refine own_loadN HO.out rfl (x := .tmp 4) rfl (by rfl) (.head) (vs := [.int .u64 r0, .int .u64 r1]) (by rfl) hut (by rfl) (by kernel_rfl) (va := #[.int .u64 r0, .int .u64 r1]) rfl ?_) | ((with_reducible refine gate_store (p := 23) rfl ?_); refine own_storeN HO.out rfl (ty := 34) (x := .tmp 23) (y := .tmp 18) (vs := #[.int .u64 r0, .int .u64 r1]) (cs' := #[.int .u64 r0, .int .u64 r1, .int .u64 a2, .int .u64 a3, .int .i64 a4, .int .i64 a5, .int .u64 b0, .int .u64 b1, .int .u64 b2, .int .u64 b3, .int .i64 b4, .int .i64 b5, .bool nn]) rfl (by rfl) (by rfl) (.tail (.tail .head)) (by kernel_rfl) (by kernel_rfl) (by first | decide | (simp; done)) (by rfl) ?_; intro wc hO_; clear HO; have HO := Aside0.mk hO_; clear hO_) | ((with_reducible refine gate_store (p := 25) rfl ?_); refine own_store HO.out rfl (ty := 4) (x := .tmp 25) (y := .tmp 20) (v := .bool (!rb)) (cs' := #[.int .u64 r0, .int .u64 r1, .int .u64 a2, .int .u64 a3, .int .i64 a4, .int .i64 a5, .int .u64 b0, .int .u64 b1, .int .u64 b2, .int .u64 b3, .int .i64 b4, .int .i64 b5, .bool (!rb)]) rfl (by rfl) (by rfl) (by (repeat (first | exact .head | apply Ext.tail))) (by kernel_rfl) (by rfl) (by first | decide | (simp; done)) (by rfl) ?_; intro wc hO_; clear HO; have HO := Aside0.mk hO_; clear hO_))
 (first | go_end0 | refine bodyPost_ret (results_none rfl _ _ _) rfl ?_)
 exact ⟨rfl, HO.out.mid.mid⟩
def nw_apart (p : NwP) : Option NwP := (num_IsConst.f p.b0 p.b1 p.b2 p.b3 p.b4 p.b5).bind fun t => if t.2 = true then nw_meet 0 (Go.bits .xor .u64 18446744073709551615 t.1) p else some p
set_option maxHeartbeats 8000000 in
set_option maxRecDepth 100000 in
theorem nw_apart_ok : NwOk 97 nw_apart := by
 intro p q gp w0 w L h hO
 obtain ⟨a0, a1, a2, a3, a4, a5, b0, b1, b2, b3, b4, b5, nn⟩ := p
 have HO : Aside0 (Own w0 w ((gp, .cells #[.int .u64 a0, .int .u64 a1, .int .u64 a2, .int .u64 a3, .int .i64 a4, .int .i64 a5, .int .u64 b0, .int .u64 b1, .int .u64 b2, .int .u64 b3, .int .i64 b4, .int .i64 b5, .bool nn] 87 (0, 0)) :: L)) := ⟨hO⟩
 clear hO
 have hup := Try.underlying87
 have hun := Try.underlying36
 have hut := Try.underlying34
 have huu := Try.underlying22
 have hui := Try.underlying2
 have hub := Try.underlying4
 unfold nw_apart at h
 obtain ⟨⟨rc, rb⟩, h0, h⟩ := Option.bind_eq_some_iff.mp h
 have HM : Aside0 (num_IsConst.f b0 b1 b2 b3 b4 b5 = some (rc, rb)) := ⟨h0⟩
 clear h0
 dsimp only at h
 cases rb with
 | false =>
  rw [if_neg Bool.false_ne_true] at h
  obtain rfl := Option.some.inj h
  clear h
  go_enter Try.func97, Try.ntmps97
  go_wp2_with (first | ((with_reducible refine gate_dst (N := 8) rfl ?_); refine own_loadN HO.out rfl (x := .tmp 7) rfl (by rfl) (.head) (vs := [.int .u64 b0, .int .u64 b1, .int .u64 b2, .int .u64 b3, .int .i64 b4, .int .i64 b5]) (by rfl) hun (by rfl) (by kernel_rfl) (va := #[.int .u64 b0, .int .u64 b1, .int .u64 b2, .int .u64 b3, .int .i64 b4, .int .i64 b5]) rfl ?_) | ((with_reducible refine gate_callee (f := 25) rfl ?_); (with_reducible refine gate_dst (N := 9) rfl ?_); refine goesL_ (some 9) rfl rfl Try.func25 (by kernel_rfl) rfl #[.agg #[.int .u64 b0, .int .u64 b1, .int .u64 b2, .int .u64 b3, .int .i64 b4, .int .i64 b5]] rfl (by (try simp only [List.map_toArray, List.map_cons, List.map_nil]); first | done | rfl) ?_; (with_reducible refine (num_IsConst.calls b0 b1 b2 b3 b4 b5 rc _ _ HM.out).mono ?_); rintro e wx ⟨rfl, hb⟩; refine ⟨_, rfl, ?_⟩; have hO_ := HO.out.below hb; clear hb; clear HO; have HO := Aside0.mk hO_; clear hO_))
  (first | go_end0 | refine bodyPost_ret (results_none rfl _ _ _) rfl ?_)
  exact ⟨rfl, HO.out⟩
 | true =>
  rw [if_pos rfl] at h
  have HQ := Aside0.mk h
  clear h
  go_enter Try.func97, Try.ntmps97
  go_wp2_with (first | ((with_reducible refine gate_dst (N := 8) rfl ?_); refine own_loadN HO.out rfl (x := .tmp 7) rfl (by rfl) (.head) (vs := [.int .u64 b0, .int .u64 b1, .int .u64 b2, .int .u64 b3, .int .i64 b4, .int .i64 b5]) (by rfl) hun (by rfl) (by kernel_rfl) (va := #[.int .u64 b0, .int .u64 b1, .int .u64 b2, .int .u64 b3, .int .i64 b4, .int .i64 b5]) rfl ?_) | ((with_reducible refine gate_callee (f := 25) rfl ?_); (with_reducible refine gate_dst (N := 9) rfl ?_); refine goesL_ (some 9) rfl rfl Try.func25 (by kernel_rfl) rfl #[.agg #[.int .u64 b0, .int .u64 b1, .int .u64 b2, .int .u64 b3, .int .i64 b4, .int .i64 b5]] rfl (by (try simp only [List.map_toArray, List.map_cons, List.map_nil]); first | done | rfl) ?_; (with_reducible refine (num_IsConst.calls b0 b1 b2 b3 b4 b5 rc _ _ HM.out).mono ?_); rintro e wx ⟨rfl, hb⟩; refine ⟨_, rfl, ?_⟩; have hO_ := HO.out.below hb; clear hb; clear HO; have HO := Aside0.mk hO_; clear hO_) | ((with_reducible refine gate_callee (f := 106) rfl ?_); (with_reducible refine gate_dst (N := 17) rfl ?_); refine goesL_ (some 17) rfl rfl Try.func106 (by kernel_rfl) rfl #[.pointer (some ⟨gp, 0, none⟩), .agg #[.int .u64 0, .int .u64 (Go.bits .xor .u64 18446744073709551615 rc)]] rfl (by (try simp only [List.map_toArray, List.map_cons, List.map_nil]); first | done | rfl) ?_; (with_reducible refine (nw_meet_calls 0 (Go.bits .xor .u64 18446744073709551615 rc) _ q gp w0 _ L HQ.out HO.out).mono ?_); rintro e wx ⟨rfl, hO_⟩; refine ⟨_, rfl, ?_⟩; clear HO; have HO := Aside0.mk hO_; clear hO_))
  (first | go_end0 | refine bodyPost_ret (results_none rfl _ _ _) rfl ?_)
  exact ⟨rfl, HO.out⟩
def nw_common (p : NwP) : Option NwP := (num_IsConst.f p.b0 p.b1 p.b2 p.b3 p.b4 p.b5).bind fun t => if t.2 = true then (bits_OnesCount64.f t.1).bind fun n => if (n == 1) = true then nw_meet t.1 (Go.bits .xor .u64 18446744073709551615 t.1) p else some p else some p
set_option maxHeartbeats 8000000 in
set_option maxRecDepth 100000 in
theorem nw_common_ok : NwOk 96 nw_common := by
 intro p q gp w0 w L h hO
 obtain ⟨a0, a1, a2, a3, a4, a5, b0, b1, b2, b3, b4, b5, nn⟩ := p
 have HO : Aside0 (Own w0 w ((gp, .cells #[.int .u64 a0, .int .u64 a1, .int .u64 a2, .int .u64 a3, .int .i64 a4, .int .i64 a5, .int .u64 b0, .int .u64 b1, .int .u64 b2, .int .u64 b3, .int .i64 b4, .int .i64 b5, .bool nn] 87 (0, 0)) :: L)) := ⟨hO⟩
 clear hO
 have hup := Try.underlying87
 have hun := Try.underlying36
 have hut := Try.underlying34
 have huu := Try.underlying22
 have hui := Try.underlying2
 have hub := Try.underlying4
 unfold nw_common at h
 obtain ⟨⟨rc, rb⟩, h0, h⟩ := Option.bind_eq_some_iff.mp h
 have HM : Aside0 (num_IsConst.f b0 b1 b2 b3 b4 b5 = some (rc, rb)) := ⟨h0⟩
 clear h0
 dsimp only at h
 cases rb with
 | false =>
  rw [if_neg Bool.false_ne_true] at h
  obtain rfl := Option.some.inj h
  clear h
  go_enter Try.func96, Try.ntmps96
  go_wp2_with (first | ((with_reducible refine gate_dst (N := 8) rfl ?_); refine own_loadN HO.out rfl (x := .tmp 7) rfl (by rfl) (.head) (vs := [.int .u64 b0, .int .u64 b1, .int .u64 b2, .int .u64 b3, .int .i64 b4, .int .i64 b5]) (by rfl) hun (by rfl) (by kernel_rfl) (va := #[.int .u64 b0, .int .u64 b1, .int .u64 b2, .int .u64 b3, .int .i64 b4, .int .i64 b5]) rfl ?_) | ((with_reducible refine gate_callee (f := 25) rfl ?_); (with_reducible refine gate_dst (N := 9) rfl ?_); refine goesL_ (some 9) rfl rfl Try.func25 (by kernel_rfl) rfl #[.agg #[.int .u64 b0, .int .u64 b1, .int .u64 b2, .int .u64 b3, .int .i64 b4, .int .i64 b5]] rfl (by (try simp only [List.map_toArray, List.map_cons, List.map_nil]); first | done | rfl) ?_; (with_reducible refine (num_IsConst.calls b0 b1 b2 b3 b4 b5 rc _ _ HM.out).mono ?_); rintro e wx ⟨rfl, hb⟩; refine ⟨_, rfl, ?_⟩; have hO_ := HO.out.below hb; clear hb; clear HO; have HO := Aside0.mk hO_; clear hO_))
  (first | go_end0 | refine bodyPost_ret (results_none rfl _ _ _) rfl ?_)
  exact ⟨rfl, HO.out⟩
 | true =>
  rw [if_pos rfl] at h
  obtain ⟨n, h1, h⟩ := Option.bind_eq_some_iff.mp h
  have HN := Aside0.mk h1
  clear h1
  by_cases c1 : (n == 1) = true
  ·rw [if_pos c1] at h
   have HQ := Aside0.mk h
   clear h
   go_enter Try.func96, Try.ntmps96
   go_wp2_with (first | ((with_reducible refine gate_dst (N := 8) rfl ?_); refine own_loadN HO.out rfl (x := .tmp 7) rfl (by rfl) (.head) (vs := [.int .u64 b0, .int .u64 b1, .int .u64 b2, .int .u64 b3, .int .i64 b4, .int .i64 b5]) (by rfl) hun (by rfl) (by kernel_rfl) (va := #[.int .u64 b0, .int .u64 b1, .int .u64 b2, .int .u64 b3, .int .i64 b4, .int .i64 b5]) rfl ?_) | ((with_reducible refine gate_callee (f := 25) rfl ?_); (with_reducible refine gate_dst (N := 9) rfl ?_); refine goesL_ (some 9) rfl rfl Try.func25 (by kernel_rfl) rfl #[.agg #[.int .u64 b0, .int .u64 b1, .int .u64 b2, .int .u64 b3, .int .i64 b4, .int .i64 b5]] rfl (by (try simp only [List.map_toArray, List.map_cons, List.map_nil]); first | done | rfl) ?_; (with_reducible refine (num_IsConst.calls b0 b1 b2 b3 b4 b5 rc _ _ HM.out).mono ?_); rintro e wx ⟨rfl, hb⟩; refine ⟨_, rfl, ?_⟩; have hO_ := HO.out.below hb; clear hb; clear HO; have HO := Aside0.mk hO_; clear hO_) | (go_at_call 105; (with_reducible refine (bits_OnesCount64.calls rc n _ HN.out).mono ?_); rintro e wx ⟨rfl, hd_⟩; have hO_ := HO.out.below (Drawn0.below hd_); clear hd_; clear HO; have HO := Aside0.mk hO_; clear hO_; dsimp only) | ((with_reducible refine gate_callee (f := 106) rfl ?_); (with_reducible refine gate_dst (N := 23) rfl ?_); refine goesL_ (some 23) rfl rfl Try.func106 (by kernel_rfl) rfl #[.pointer (some ⟨gp, 0, none⟩), .agg #[.int .u64 rc, .int .u64 (Go.bits .xor .u64 18446744073709551615 rc)]] rfl (by (try simp only [List.map_toArray, List.map_cons, List.map_nil]); first | done | rfl) ?_; (with_reducible refine (nw_meet_calls rc (Go.bits .xor .u64 18446744073709551615 rc) _ q gp w0 _ L HQ.out HO.out).mono ?_); rintro e wx ⟨rfl, hO_⟩; refine ⟨_, rfl, ?_⟩; clear HO; have HO := Aside0.mk hO_; clear hO_))
   (first | go_end0 | refine bodyPost_ret (results_none rfl _ _ _) rfl ?_)
   exact ⟨rfl, HO.out⟩
  ·rw [if_neg c1] at h
   have c1 : (n == 1) = false := by simpa using c1
   obtain rfl := Option.some.inj h
   clear h
   go_enter Try.func96, Try.ntmps96
   go_wp2_with (first | ((with_reducible refine gate_dst (N := 8) rfl ?_); refine own_loadN HO.out rfl (x := .tmp 7) rfl (by rfl) (.head) (vs := [.int .u64 b0, .int .u64 b1, .int .u64 b2, .int .u64 b3, .int .i64 b4, .int .i64 b5]) (by rfl) hun (by rfl) (by kernel_rfl) (va := #[.int .u64 b0, .int .u64 b1, .int .u64 b2, .int .u64 b3, .int .i64 b4, .int .i64 b5]) rfl ?_) | ((with_reducible refine gate_callee (f := 25) rfl ?_); (with_reducible refine gate_dst (N := 9) rfl ?_); refine goesL_ (some 9) rfl rfl Try.func25 (by kernel_rfl) rfl #[.agg #[.int .u64 b0, .int .u64 b1, .int .u64 b2, .int .u64 b3, .int .i64 b4, .int .i64 b5]] rfl (by (try simp only [List.map_toArray, List.map_cons, List.map_nil]); first | done | rfl) ?_; (with_reducible refine (num_IsConst.calls b0 b1 b2 b3 b4 b5 rc _ _ HM.out).mono ?_); rintro e wx ⟨rfl, hb⟩; refine ⟨_, rfl, ?_⟩; have hO_ := HO.out.below hb; clear hb; clear HO; have HO := Aside0.mk hO_; clear hO_) | (go_at_call 105; (with_reducible refine (bits_OnesCount64.calls rc n _ HN.out).mono ?_); rintro e wx ⟨rfl, hd_⟩; have hO_ := HO.out.below (Drawn0.below hd_); clear hd_; clear HO; have HO := Aside0.mk hO_; clear hO_; dsimp only))
   (first | go_end0 | refine bodyPost_ret (results_none rfl _ _ _) rfl ?_)
   exact ⟨rfl, HO.out⟩
def nw_swap (p : NwP) : NwP := match p with
 | ⟨a0, a1, a2, a3, a4, a5, b0, b1, b2, b3, b4, b5, nn⟩ => ⟨b0, b1, b2, b3, b4, b5, a0, a1, a2, a3, a4, a5, nn⟩
def nw_turn (m : NwP → Option NwP) (p : NwP) : Option NwP := (m (nw_swap p)).bind fun q => some (nw_swap q)
set_option maxHeartbeats 8000000 in
set_option maxRecDepth 100000 in
theorem nw_turned_ok (F : FuncId) (fnF : Func) (m : NwP → Option NwP) (hF : Try.prog.funcs[F]? = some fnF) (hn : (fnF.name == "runtime.NumGoroutine") = false) (hb : fnF.body.isSome = true) (hm : NwOk F m) (p q : NwP) (gp gb : Nat) (w0 w : World) (L : Hl)
  (h : nw_turn m p = some q) (hO : Own w0 w ((gp, p.obj) :: (gb, .cells #[.func (.func F) #[] #[]] 79 (0, 0)) :: L)) : Calls Try.prog 104 #[.pointer (some ⟨gp, 0, none⟩), .pointer (some ⟨gb, 0, none⟩)] w fun e w' => e = .returned (.tuple #[]) ∧ Own w0 w' ((gp, q.obj) :: (gb, .cells #[.func (.func F) #[] #[]] 79 (0, 0)) :: L) := by
 obtain ⟨a0, a1, a2, a3, a4, a5, b0, b1, b2, b3, b4, b5, nn⟩ := p
 have HO : Aside0 (Own w0 w ((gp, .cells #[.int .u64 a0, .int .u64 a1, .int .u64 a2, .int .u64 a3, .int .i64 a4, .int .i64 a5, .int .u64 b0, .int .u64 b1, .int .u64 b2, .int .u64 b3, .int .i64 b4, .int .i64 b5, .bool nn] 87 (0, 0)) :: (gb, .cells #[.func (.func F) #[] #[]] 79 (0, 0)) :: L)) := ⟨hO⟩
 clear hO
 have hup := Try.underlying87
 have hun := Try.underlying36
 have hut := Try.underlying34
 have huu := Try.underlying22
 have hui := Try.underlying2
 have hub := Try.underlying4
 have huf := Try.underlying79
 unfold nw_turn at h
 obtain ⟨⟨c0, c1, c2, c3, c4, c5, d0, d1, d2, d3, d4, d5, mm⟩, h0, h⟩ := Option.bind_eq_some_iff.mp h
 obtain rfl := Option.some.inj h
 have HM : Aside0 (m ⟨b0, b1, b2, b3, b4, b5, a0, a1, a2, a3, a4, a5, nn⟩ = some ⟨c0, c1, c2, c3, c4, c5, d0, d1, d2, d3, d4, d5, mm⟩) := ⟨h0⟩
 clear h h0
 go_enter Try.func104, Try.ntmps104
 try go_wp2
 refine start_ (n := 16) (S := fun W => Own w0 W ((gp, .cells #[.int .u64 a0, .int .u64 a1, .int .u64 a2, .int .u64 a3, .int .i64 a4, .int .i64 a5, .int .u64 b0, .int .u64 b1, .int .u64 b2, .int .u64 b3, .int .i64 b4, .int .i64 b5, .bool nn] 87 (0, 0)) :: (gb, .cells #[.func (.func F) #[] #[]] 79 (0, 0)) :: L)) (ds := [12, 15]) #[false, false, false, false, false, false, false, false, false, false, false, false, false, false, false, false] (by kernel_rfl) rfl rfl (Own.drew (HO.out)) (fun hHeld => ?_)
 have HO_ := Aside0.mk HO.out.drew
 clear HO
 have HO := HO_
 clear HO_
 generalize World.drew _ = wr at HO hHeld ⊢
 refine pure_ (i := 0) (N := some 3) (v := ?_) (a' := ?_) (up 16 1) rfl rfl (by kernel_rfl) (fun _ _ _ h => h) (Or.inl ⟨by rfl, ?_⟩) ?_ ?_
 rotate_left
 ·intro w'
  go_simp
  with_reducible rfl
 rotate_left
 ·simp only [Act.put, List.setIfInBounds_toArray, List.set_cons_zero, List.set_cons_succ, i64_w, i32_w]
  rfl
 refine pure_ (i := 1) (N := some 4) (v := ?_) (a' := ?_) (up 16 2) rfl rfl (by kernel_rfl) (fun _ _ _ h => h) (Or.inl ⟨by rfl, ?_⟩) ?_ ?_
 rotate_left
 ·intro w'
  go_simp
  with_reducible rfl
 rotate_left
 ·simp only [Act.put, List.setIfInBounds_toArray, List.set_cons_zero, List.set_cons_succ, i64_w, i32_w]
  rfl
 refine pure_ (i := 2) (N := some 5) (v := ?_) (a' := ?_) (up 16 3) rfl rfl (by kernel_rfl) (fun _ _ _ h => h) (Or.inl ⟨by rfl, ?_⟩) ?_ ?_
 rotate_left
 ·intro w'
  go_simp
  with_reducible rfl
 rotate_left
 ·simp only [Act.put, List.setIfInBounds_toArray, List.set_cons_zero, List.set_cons_succ, i64_w, i32_w]
  rfl
 refine pure_ (i := 3) (N := some 6) (v := ?_) (a' := ?_) (up 16 4) rfl rfl (by kernel_rfl) (fun _ _ _ h => h) (Or.inl ⟨by rfl, ?_⟩) ?_ ?_
 rotate_left
 ·intro w'
  go_simp
  with_reducible rfl
 rotate_left
 ·simp only [Act.put, List.setIfInBounds_toArray, List.set_cons_zero, List.set_cons_succ, i64_w, i32_w]
  rfl
 refine pure_ (i := 4) (N := some 7) (v := ?_) (a' := ?_) (up 16 5) rfl rfl (by kernel_rfl) (fun _ _ _ h => h) (Or.inl ⟨by rfl, ?_⟩) ?_ ?_
 rotate_left
 ·intro w'
  go_simp
  with_reducible rfl
 rotate_left
 ·simp only [Act.put, List.setIfInBounds_toArray, List.set_cons_zero, List.set_cons_succ, i64_w, i32_w]
  rfl
 refine take_ (i := 5) (N := some 8) (v := .agg #[.int .u64 b0, .int .u64 b1, .int .u64 b2, .int .u64 b3, .int .i64 b4, .int .i64 b5]) (a' := ?_) (up 16 6) rfl rfl (by kernel_rfl) (fun _ _ _ h => h) (own_yieldN (by rfl) (x := .tmp 7) rfl (by rfl) (.head) (vs := [.int .u64 b0, .int .u64 b1, .int .u64 b2, .int .u64 b3, .int .i64 b4, .int .i64 b5]) (by rfl) hun (by rfl) (by kernel_rfl) rfl) hHeld ?_ ?_
 rotate_left
 ·simp only [Act.put, List.setIfInBounds_toArray, List.set_cons_zero, List.set_cons_succ, i64_w, i32_w]
  rfl
 refine pure_ (i := 6) (N := some 9) (v := ?_) (a' := ?_) (up 16 7) rfl rfl (by kernel_rfl) (fun _ _ _ h => h) (Or.inl ⟨by rfl, ?_⟩) ?_ ?_
 rotate_left
 ·intro w'
  go_simp
  with_reducible rfl
 rotate_left
 ·simp only [Act.put, List.setIfInBounds_toArray, List.set_cons_zero, List.set_cons_succ, i64_w, i32_w]
  rfl
 refine pure_ (i := 7) (N := some 10) (v := ?_) (a' := ?_) (up 16 8) rfl rfl (by kernel_rfl) (fun _ _ _ h => h) (Or.inl ⟨by rfl, ?_⟩) ?_ ?_
 rotate_left
 ·intro w'
  go_simp
  with_reducible rfl
 rotate_left
 ·simp only [Act.put, List.setIfInBounds_toArray, List.set_cons_zero, List.set_cons_succ, i64_w, i32_w]
  rfl
 refine pure_ (i := 8) (N := some 11) (v := ?_) (a' := ?_) (up 16 9) rfl rfl (by kernel_rfl) (fun _ _ _ h => h) (Or.inl ⟨by rfl, ?_⟩) ?_ ?_
 rotate_left
 ·intro w'
  go_simp
  with_reducible rfl
 rotate_left
 ·simp only [Act.put, List.setIfInBounds_toArray, List.set_cons_zero, List.set_cons_succ, i64_w, i32_w]
  rfl
 refine take_ (i := 9) (N := some 12) (v := .agg #[.int .u64 a0, .int .u64 a1, .int .u64 a2, .int .u64 a3, .int .i64 a4, .int .i64 a5]) (a' := ?_) (up 16 10) rfl rfl (by kernel_rfl) (fun _ _ _ h => h) (own_yieldN (by rfl) (x := .tmp 11) rfl (by rfl) (.head) (vs := [.int .u64 a0, .int .u64 a1, .int .u64 a2, .int .u64 a3, .int .i64 a4, .int .i64 a5]) (by rfl) hun (by rfl) (by kernel_rfl) rfl) hHeld ?_ ?_
 rotate_left
 ·simp only [Act.put, List.setIfInBounds_toArray, List.set_cons_zero, List.set_cons_succ, i64_w, i32_w]
  rfl
 refine pure_ (i := 10) (N := some 13) (v := ?_) (a' := ?_) (up 16 11) rfl rfl (by kernel_rfl) (fun _ _ _ h => h) (Or.inl ⟨by rfl, ?_⟩) ?_ ?_
 rotate_left
 ·intro w'
  go_simp
  with_reducible rfl
 rotate_left
 ·simp only [Act.put, List.setIfInBounds_toArray, List.set_cons_zero, List.set_cons_succ, i64_w, i32_w]
  rfl
 refine pure_ (i := 11) (N := some 14) (v := ?_) (a' := ?_) (up 16 12) rfl rfl (by kernel_rfl) (fun _ _ _ h => h) (Or.inl ⟨by rfl, ?_⟩) ?_ ?_
 rotate_left
 ·intro w'
  go_simp
  with_reducible rfl
 rotate_left
 ·simp only [Act.put, List.setIfInBounds_toArray, List.set_cons_zero, List.set_cons_succ, i64_w, i32_w]
  rfl
 refine last_ (i := 12) (N := none) (up 16 13) rfl rfl (by kernel_rfl) (by decide) (fun K hK => ?_)
 refine own_storeN_k HO.out (by rfl) rfl (ty := 36) (x := .tmp 14) (y := .tmp 8) (vs := #[.int .u64 b0, .int .u64 b1, .int .u64 b2, .int .u64 b3, .int .i64 b4, .int .i64 b5]) (cs' := #[.int .u64 b0, .int .u64 b1, .int .u64 b2, .int .u64 b3, .int .i64 b4, .int .i64 b5, .int .u64 b0, .int .u64 b1, .int .u64 b2, .int .u64 b3, .int .i64 b4, .int .i64 b5, .bool nn]) rfl (by rfl) (by rfl) (.head) (by kernel_rfl) (by kernel_rfl) (by first | decide | (simp; done)) (by rfl) ?_
 intro wc hO_
 clear HO; have HO := Aside0.mk hO_; clear hO_
 refine hK.out _ _ ?_
 clear hK K
 refine pure_ (i := 13) (N := some 15) (v := ?_) (a' := ?_) (up 16 14) rfl rfl (by kernel_rfl) (fun _ _ _ h => h) (Or.inl ⟨by rfl, ?_⟩) ?_ ?_
 rotate_left
 ·intro w'
  go_simp
  with_reducible rfl
 rotate_left
 ·simp only [Act.put, List.setIfInBounds_toArray, List.set_cons_zero, List.set_cons_succ, i64_w, i32_w]
  rfl
 refine pure_ (i := 14) (N := some 16) (v := ?_) (a' := ?_) (up 16 15) rfl rfl (by kernel_rfl) (fun _ _ _ h => h) (Or.inl ⟨by rfl, ?_⟩) ?_ ?_
 rotate_left
 ·intro w'
  go_simp
  with_reducible rfl
 rotate_left
 ·simp only [Act.put, List.setIfInBounds_toArray, List.set_cons_zero, List.set_cons_succ, i64_w, i32_w]
  rfl
 refine last_ (i := 15) (N := none) (up 16 16) rfl rfl (by kernel_rfl) (by decide) (fun K hK => ?_)
 refine own_storeN_k HO.out (by rfl) rfl (ty := 36) (x := .tmp 16) (y := .tmp 12) (vs := #[.int .u64 a0, .int .u64 a1, .int .u64 a2, .int .u64 a3, .int .i64 a4, .int .i64 a5]) (cs' := #[.int .u64 b0, .int .u64 b1, .int .u64 b2, .int .u64 b3, .int .i64 b4, .int .i64 b5, .int .u64 a0, .int .u64 a1, .int .u64 a2, .int .u64 a3, .int .i64 a4, .int .i64 a5, .bool nn]) rfl (by rfl) (by rfl) (.head) (by kernel_rfl) (by kernel_rfl) (by first | decide | (simp; done)) (by rfl) ?_
 intro wc hO_
 clear HO; have HO := Aside0.mk hO_; clear hO_
 refine hK.out _ _ ?_
 clear hK K
 refine done_ (by kernel_rfl) ?_
 clear hHeld
 go_wp2_with (first | ((with_reducible refine gate_dst (N := 17) rfl ?_); refine own_load HO.out rfl (x := .tmp 1) (v := .func (.func F) #[] #[]) rfl (by rfl) (.tail .head) huf (by rfl) (by rfl) ?_) | ((with_reducible refine gate_dst (N := 19) rfl ?_); refine goesV_ (some 19) rfl rfl hF hn hb #[.pointer (some ⟨gp, 0, none⟩)] (p := 17) rfl (by rfl) (by (try simp only [List.map_toArray, List.map_cons, List.map_nil]); first | done | rfl) ?_; refine (hm _ _ gp w0 _ _ HM.out HO.out).mono ?_; rintro e wx ⟨rfl, hO_⟩; refine ⟨_, rfl, ?_⟩; clear HO; have HO : Aside0 (Own w0 wx ((gp, .cells #[.int .u64 c0, .int .u64 c1, .int .u64 c2, .int .u64 c3, .int .i64 c4, .int .i64 c5, .int .u64 d0, .int .u64 d1, .int .u64 d2, .int .u64 d3, .int .i64 d4, .int .i64 d5, .bool mm] 87 (0, 0)) :: (gb, .cells #[.func (.func F) #[] #[]] 79 (0, 0)) :: L)) := ⟨hO_⟩; clear hO_))
 refine start_ (n := 16) (S := fun W => Own w0 W ((gp, .cells #[.int .u64 c0, .int .u64 c1, .int .u64 c2, .int .u64 c3, .int .i64 c4, .int .i64 c5, .int .u64 d0, .int .u64 d1, .int .u64 d2, .int .u64 d3, .int .i64 d4, .int .i64 d5, .bool mm] 87 (0, 0)) :: (gb, .cells #[.func (.func F) #[] #[]] 79 (0, 0)) :: L)) (ds := [12, 15]) #[false, false, false, false, false, false, false, false, false, false, false, false, false, false, false, false] (by kernel_rfl) rfl rfl (Own.drew (HO.out)) (fun hHeld => ?_)
 have HO_ := Aside0.mk HO.out.drew
 clear HO
 have HO := HO_
 clear HO_
 generalize World.drew _ = wr at HO hHeld ⊢
 refine pure_ (i := 0) (N := some 20) (v := ?_) (a' := ?_) (up 16 1) rfl rfl (by kernel_rfl) (fun _ _ _ h => h) (Or.inl ⟨by rfl, ?_⟩) ?_ ?_
 rotate_left
 ·intro w'
  go_simp
  with_reducible rfl
 rotate_left
 ·simp only [Act.put, List.setIfInBounds_toArray, List.set_cons_zero, List.set_cons_succ, i64_w, i32_w]
  rfl
 refine pure_ (i := 1) (N := some 21) (v := ?_) (a' := ?_) (up 16 2) rfl rfl (by kernel_rfl) (fun _ _ _ h => h) (Or.inl ⟨by rfl, ?_⟩) ?_ ?_
 rotate_left
 ·intro w'
  go_simp
  with_reducible rfl
 rotate_left
 ·simp only [Act.put, List.setIfInBounds_toArray, List.set_cons_zero, List.set_cons_succ, i64_w, i32_w]
  rfl
 refine pure_ (i := 2) (N := some 22) (v := ?_) (a' := ?_) (up 16 3) rfl rfl (by kernel_rfl) (fun _ _ _ h => h) (Or.inl ⟨by rfl, ?_⟩) ?_ ?_
 rotate_left
 ·intro w'
  go_simp
  with_reducible rfl
 rotate_left
 ·simp only [Act.put, List.setIfInBounds_toArray, List.set_cons_zero, List.set_cons_succ, i64_w, i32_w]
  rfl
 refine pure_ (i := 3) (N := some 23) (v := ?_) (a' := ?_) (up 16 4) rfl rfl (by kernel_rfl) (fun _ _ _ h => h) (Or.inl ⟨by rfl, ?_⟩) ?_ ?_
 rotate_left
 ·intro w'
  go_simp
  with_reducible rfl
 rotate_left
 ·simp only [Act.put, List.setIfInBounds_toArray, List.set_cons_zero, List.set_cons_succ, i64_w, i32_w]
  rfl
 refine pure_ (i := 4) (N := some 24) (v := ?_) (a' := ?_) (up 16 5) rfl rfl (by kernel_rfl) (fun _ _ _ h => h) (Or.inl ⟨by rfl, ?_⟩) ?_ ?_
 rotate_left
 ·intro w'
  go_simp
  with_reducible rfl
 rotate_left
 ·simp only [Act.put, List.setIfInBounds_toArray, List.set_cons_zero, List.set_cons_succ, i64_w, i32_w]
  rfl
 refine take_ (i := 5) (N := some 25) (v := .agg #[.int .u64 d0, .int .u64 d1, .int .u64 d2, .int .u64 d3, .int .i64 d4, .int .i64 d5]) (a' := ?_) (up 16 6) rfl rfl (by kernel_rfl) (fun _ _ _ h => h) (own_yieldN (by rfl) (x := .tmp 24) rfl (by rfl) (.head) (vs := [.int .u64 d0, .int .u64 d1, .int .u64 d2, .int .u64 d3, .int .i64 d4, .int .i64 d5]) (by rfl) hun (by rfl) (by kernel_rfl) rfl) hHeld ?_ ?_
 rotate_left
 ·simp only [Act.put, List.setIfInBounds_toArray, List.set_cons_zero, List.set_cons_succ, i64_w, i32_w]
  rfl
 refine pure_ (i := 6) (N := some 26) (v := ?_) (a' := ?_) (up 16 7) rfl rfl (by kernel_rfl) (fun _ _ _ h => h) (Or.inl ⟨by rfl, ?_⟩) ?_ ?_
 rotate_left
 ·intro w'
  go_simp
  with_reducible rfl
 rotate_left
 ·simp only [Act.put, List.setIfInBounds_toArray, List.set_cons_zero, List.set_cons_succ, i64_w, i32_w]
  rfl
 refine pure_ (i := 7) (N := some 27) (v := ?_) (a' := ?_) (up 16 8) rfl rfl (by kernel_rfl) (fun _ _ _ h => h) (Or.inl ⟨by rfl, ?_⟩) ?_ ?_
 rotate_left
 ·intro w'
  go_simp
  with_reducible rfl
 rotate_left
 ·simp only [Act.put, List.setIfInBounds_toArray, List.set_cons_zero, List.set_cons_succ, i64_w, i32_w]
  rfl
 refine pure_ (i := 8) (N := some 28) (v := ?_) (a' := ?_) (up 16 9) rfl rfl (by kernel_rfl) (fun _ _ _ h => h) (Or.inl ⟨by rfl, ?_⟩) ?_ ?_
 rotate_left
 ·intro w'
  go_simp
  with_reducible rfl
 rotate_left
 ·simp only [Act.put, List.setIfInBounds_toArray, List.set_cons_zero, List.set_cons_succ, i64_w, i32_w]
  rfl
 refine take_ (i := 9) (N := some 29) (v := .agg #[.int .u64 c0, .int .u64 c1, .int .u64 c2, .int .u64 c3, .int .i64 c4, .int .i64 c5]) (a' := ?_) (up 16 10) rfl rfl (by kernel_rfl) (fun _ _ _ h => h) (own_yieldN (by rfl) (x := .tmp 28) rfl (by rfl) (.head) (vs := [.int .u64 c0, .int .u64 c1, .int .u64 c2, .int .u64 c3, .int .i64 c4, .int .i64 c5]) (by rfl) hun (by rfl) (by kernel_rfl) rfl) hHeld ?_ ?_
 rotate_left
 ·simp only [Act.put, List.setIfInBounds_toArray, List.set_cons_zero, List.set_cons_succ, i64_w, i32_w]
  rfl
 refine pure_ (i := 10) (N := some 30) (v := ?_) (a' := ?_) (up 16 11) rfl rfl (by kernel_rfl) (fun _ _ _ h => h) (Or.inl ⟨by rfl, ?_⟩) ?_ ?_
 rotate_left
 ·intro w'
  go_simp
  with_reducible rfl
 rotate_left
 ·simp only [Act.put, List.setIfInBounds_toArray, List.set_cons_zero, List.set_cons_succ, i64_w, i32_w]
  rfl
 refine pure_ (i := 11) (N := some 31) (v := ?_) (a' := ?_) (up 16 12) rfl rfl (by kernel_rfl) (fun _ _ _ h => h) (Or.inl ⟨by rfl, ?_⟩) ?_ ?_
 rotate_left
 ·intro w'
  go_simp
  with_reducible rfl
 rotate_left
 ·simp only [Act.put, List.setIfInBounds_toArray, List.set_cons_zero, List.set_cons_succ, i64_w, i32_w]
  rfl
 refine last_ (i := 12) (N := none) (up 16 13) rfl rfl (by kernel_rfl) (by decide) (fun K hK => ?_)
 refine own_storeN_k HO.out (by rfl) rfl (ty := 36) (x := .tmp 31) (y := .tmp 25) (vs := #[.int .u64 d0, .int .u64 d1, .int .u64 d2, .int .u64 d3, .int .i64 d4, .int .i64 d5]) (cs' := #[.int .u64 d0, .int .u64 d1, .int .u64 d2, .int .u64 d3, .int .i64 d4, .int .i64 d5, .int .u64 d0, .int .u64 d1, .int .u64 d2, .int .u64 d3, .int .i64 d4, .int .i64 d5, .bool mm]) rfl (by rfl) (by rfl) (.head) (by kernel_rfl) (by kernel_rfl) (by first | decide | (simp; done)) (by rfl) ?_
 intro wc hO_
 clear HO; have HO := Aside0.mk hO_; clear hO_
 refine hK.out _ _ ?_
 clear hK K
 refine pure_ (i := 13) (N := some 32) (v := ?_) (a' := ?_) (up 16 14) rfl rfl (by kernel_rfl) (fun _ _ _ h => h) (Or.inl ⟨by rfl, ?_⟩) ?_ ?_
 rotate_left
 ·intro w'
  go_simp
  with_reducible rfl
 rotate_left
 ·simp only [Act.put, List.setIfInBounds_toArray, List.set_cons_zero, List.set_cons_succ, i64_w, i32_w]
  rfl
 refine pure_ (i := 14) (N := some 33) (v := ?_) (a' := ?_) (up 16 15) rfl rfl (by kernel_rfl) (fun _ _ _ h => h) (Or.inl ⟨by rfl, ?_⟩) ?_ ?_
 rotate_left
 ·intro w'
  go_simp
  with_reducible rfl
 rotate_left
 ·simp only [Act.put, List.setIfInBounds_toArray, List.set_cons_zero, List.set_cons_succ, i64_w, i32_w]
  rfl
 refine last_ (i := 15) (N := none) (up 16 16) rfl rfl (by kernel_rfl) (by decide) (fun K hK => ?_)
 refine own_storeN_k HO.out (by rfl) rfl (ty := 36) (x := .tmp 33) (y := .tmp 29) (vs := #[.int .u64 c0, .int .u64 c1, .int .u64 c2, .int .u64 c3, .int .i64 c4, .int .i64 c5]) (cs' := #[.int .u64 d0, .int .u64 d1, .int .u64 d2, .int .u64 d3, .int .i64 d4, .int .i64 d5, .int .u64 c0, .int .u64 c1, .int .u64 c2, .int .u64 c3, .int .i64 c4, .int .i64 c5, .bool mm]) rfl (by rfl) (by rfl) (.head) (by kernel_rfl) (by kernel_rfl) (by first | decide | (simp; done)) (by rfl) ?_
 intro wc hO_
 clear HO; have HO := Aside0.mk hO_; clear hO_
 refine hK.out _ _ ?_
 clear hK K
 refine done_ (by kernel_rfl) ?_
 clear hHeld
 (first | go_end0 | refine bodyPost_ret (results_none rfl _ _ _) rfl ?_)
 exact ⟨rfl, HO.out⟩


end Go.Proofs.Ytdojdjafleaedaa.PNarrowSound
