/- Functions of the program that some laws reach, as Lean functions, and proofs that the program's calls come to what they say: written by a program, for the texts that import it; each theorem bears its own conditions. -/
import Derived.Test.YtdojdjafleaedaaPNarrowSoundx0
import Derived.Test.YtdojdjafleaedaaPNarrowSoundx3
import Derived.Test.YtdojdjafleaedaaPNarrowSoundx4
import Derived.Test.YtdojdjafleaedaaPNarrowSoundx5
namespace Go.Proofs.Ytdojdjafleaedaa.PNarrowSound
open Go.RowKit Go.Proofs.YtdojdjafleaedaaW.PrintWords Go.Proofs.YtdojdjafleaedaaW.PrintLast Go.Proofs.YtdojdjafleaedaaW.PrintMore
attribute [local go_sem] max2_int min2_int max_two min_two max_three min_three max_four min_four   -- for this text's walks alone
set_option linter.unusedVariables false
set_option linter.unusedSimpArgs false

/-! ### narrow_pair_unlike: function 94 -/
open Go.Proofs.Hp Go.Proofs.Ev
def nw_some (k : Nat) (b : Bool) (x0 x1 x2 x3 x4 x5 c : Int) : Option (Int × Int × Int × Int × Int × Int × Bool) := if b = true then narrow_without.f k x0 x1 x2 x3 x4 x5 c else some (x0, x1, x2, x3, x4, x5, true)
def nw_unlike (k : Nat) (p : NwP) : Option NwP := match p with
 | ⟨a0, a1, a2, a3, a4, a5, b0, b1, b2, b3, b4, b5, nn⟩ => (num_IsConst.f a0 a1 a2 a3 a4 a5).bind fun x => (num_IsConst.f b0 b1 b2 b3 b4 b5).bind fun y => (nw_some k y.2 a0 a1 a2 a3 a4 a5 y.1).bind fun u => (nw_some k x.2 b0 b1 b2 b3 b4 b5 x.1).bind fun v => some ⟨u.1, u.2.1, u.2.2.1, u.2.2.2.1, u.2.2.2.2.1, u.2.2.2.2.2.1, v.1, v.2.1, v.2.2.1, v.2.2.2.1, v.2.2.2.2.1, v.2.2.2.2.2.1, !u.2.2.2.2.2.2 || !v.2.2.2.2.2.2⟩
set_option maxHeartbeats 8000000 in
set_option maxRecDepth 100000 in
theorem nw_unlike_ok (k : Nat) : NwOk 94 (nw_unlike k) := by
 intro p q gp w0 w L h hO
 obtain ⟨a0, a1, a2, a3, a4, a5, b0, b1, b2, b3, b4, b5, nn⟩ := p
 have HO : Aside0 (Own w0 w ((gp, .cells #[.int .u64 a0, .int .u64 a1, .int .u64 a2, .int .u64 a3, .int .i64 a4, .int .i64 a5, .int .u64 b0, .int .u64 b1, .int .u64 b2, .int .u64 b3, .int .i64 b4, .int .i64 b5, .bool nn] 87 (0, 0)) :: L)) := ⟨hO⟩
 clear hO
 have hup := Try.underlying87
 have hun := Try.underlying36
 have hut := Try.underlying34
 have huu := Try.underlying22
 have hui := Try.underlying2
 have hub := Try.underlying4
 unfold nw_unlike at h
 obtain ⟨⟨xc, xb⟩, h0, h⟩ := Option.bind_eq_some_iff.mp h
 obtain ⟨⟨yc, yb⟩, h1, h⟩ := Option.bind_eq_some_iff.mp h
 obtain ⟨⟨u0, u1, u2, u3, u4, u5, ub⟩, h2, h⟩ := Option.bind_eq_some_iff.mp h
 obtain ⟨⟨v0, v1, v2, v3, v4, v5, vb⟩, h3, h⟩ := Option.bind_eq_some_iff.mp h
 obtain rfl := Option.some.inj h
 have HX := Aside0.mk h0
 have HY := Aside0.mk h1
 have HU := Aside0.mk h2
 have HV := Aside0.mk h3
 clear h h0 h1 h2 h3
 dsimp only at HU HV
 cases yb with
 | false =>
  have e_ := Option.some.inj HU.out
  simp only [Prod.mk.injEq] at e_
  obtain ⟨rfl, rfl, rfl, rfl, rfl, rfl, rfl⟩ := e_
  clear HU
  cases xb with
  | false =>
   have e_ := Option.some.inj HV.out
   simp only [Prod.mk.injEq] at e_
   obtain ⟨rfl, rfl, rfl, rfl, rfl, rfl, rfl⟩ := e_
   clear HV
   go_enter Try.func94, Try.ntmps94
   go_wp2_with (first | ((with_reducible refine gate_dst (N := 14) rfl ?_); refine own_loadN HO.out rfl (x := .tmp 13) rfl (by rfl) (.head) (vs := [.int .u64 a0, .int .u64 a1, .int .u64 a2, .int .u64 a3, .int .i64 a4, .int .i64 a5]) (by rfl) hun (by rfl) (by kernel_rfl) (va := #[.int .u64 a0, .int .u64 a1, .int .u64 a2, .int .u64 a3, .int .i64 a4, .int .i64 a5]) rfl ?_) | ((with_reducible refine gate_callee (f := 25) rfl ?_); (with_reducible refine gate_dst (N := 15) rfl ?_); refine goesL_ (some 15) rfl rfl Try.func25 (by kernel_rfl) rfl #[.agg #[.int .u64 a0, .int .u64 a1, .int .u64 a2, .int .u64 a3, .int .i64 a4, .int .i64 a5]] rfl (by (try simp only [List.map_toArray, List.map_cons, List.map_nil]); first | done | rfl) ?_; (with_reducible refine (num_IsConst.calls a0 a1 a2 a3 a4 a5 xc _ _ HX.out).mono ?_); rintro e wx ⟨rfl, hb⟩; refine ⟨_, rfl, ?_⟩; have hO_ := HO.out.below hb; clear hb; clear HO; have HO := Aside0.mk hO_; clear hO_) | ((with_reducible refine gate_dst (N := 22) rfl ?_); refine own_loadN HO.out rfl (x := .tmp 21) rfl (by rfl) (.head) (vs := [.int .u64 b0, .int .u64 b1, .int .u64 b2, .int .u64 b3, .int .i64 b4, .int .i64 b5]) (by rfl) hun (by rfl) (by kernel_rfl) (va := #[.int .u64 b0, .int .u64 b1, .int .u64 b2, .int .u64 b3, .int .i64 b4, .int .i64 b5]) rfl ?_) | ((with_reducible refine gate_callee (f := 25) rfl ?_); (with_reducible refine gate_dst (N := 23) rfl ?_); refine goesL_ (some 23) rfl rfl Try.func25 (by kernel_rfl) rfl #[.agg #[.int .u64 b0, .int .u64 b1, .int .u64 b2, .int .u64 b3, .int .i64 b4, .int .i64 b5]] rfl (by (try simp only [List.map_toArray, List.map_cons, List.map_nil]); first | done | rfl) ?_; (with_reducible refine (num_IsConst.calls b0 b1 b2 b3 b4 b5 yc _ _ HY.out).mono ?_); rintro e wx ⟨rfl, hb⟩; refine ⟨_, rfl, ?_⟩; have hO_ := HO.out.below hb; clear hb; clear HO; have HO := Aside0.mk hO_; clear hO_))
   refine start_ (n := 14) (S := fun W => Own w0 W ((gp, .cells #[.int .u64 a0, .int .u64 a1, .int .u64 a2, .int .u64 a3, .int .i64 a4, .int .i64 a5, .int .u64 b0, .int .u64 b1, .int .u64 b2, .int .u64 b3, .int .i64 b4, .int .i64 b5, .bool nn] 87 (0, 0)) :: L)) (ds := []) #[false, false, false, false, false, false, false, false, false, false, false, false, false, false] (by kernel_rfl) rfl rfl (Own.drew (HO.out)) (fun hHeld => ?_)
   have HO_ := Aside0.mk HO.out.drew
   clear HO
   have HO := HO_
   clear HO_
   generalize World.drew _ = wr at HO hHeld ⊢
   refine pure_ (i := 0) (N := some 26) (v := ?_) (a' := ?_) (up 14 1) rfl rfl (by kernel_rfl) (fun _ _ _ h => h) (Or.inl ⟨by rfl, ?_⟩) ?_ ?_
   rotate_left
   ·intro w'
    go_simp
    with_reducible rfl
   rotate_left
   ·simp only [Act.put, List.setIfInBounds_toArray, List.set_cons_zero, List.set_cons_succ, i64_w, i32_w]
    rfl
   refine pure_ (i := 1) (N := some 27) (v := ?_) (a' := ?_) (up 14 2) rfl rfl (by kernel_rfl) (fun _ _ _ h => h) (Or.inl ⟨by rfl, ?_⟩) ?_ ?_
   rotate_left
   ·intro w'
    go_simp
    with_reducible rfl
   rotate_left
   ·simp only [Act.put, List.setIfInBounds_toArray, List.set_cons_zero, List.set_cons_succ, i64_w, i32_w]
    rfl
   refine pure_ (i := 2) (N := some 28) (v := ?_) (a' := ?_) (up 14 3) rfl rfl (by kernel_rfl) (fun _ _ _ h => h) (Or.inl ⟨by rfl, ?_⟩) ?_ ?_
   rotate_left
   ·intro w'
    go_simp
    with_reducible rfl
   rotate_left
   ·simp only [Act.put, List.setIfInBounds_toArray, List.set_cons_zero, List.set_cons_succ, i64_w, i32_w]
    rfl
   refine take_ (i := 3) (N := some 29) (v := .agg #[.int .u64 a0, .int .u64 a1, .int .u64 a2, .int .u64 a3, .int .i64 a4, .int .i64 a5]) (a' := ?_) (up 14 4) rfl rfl (by kernel_rfl) (fun _ _ _ h => h) (own_yieldN (by rfl) (x := .tmp 28) rfl (by rfl) (.head) (vs := [.int .u64 a0, .int .u64 a1, .int .u64 a2, .int .u64 a3, .int .i64 a4, .int .i64 a5]) (by rfl) hun (by rfl) (by kernel_rfl) rfl) hHeld ?_ ?_
   rotate_left
   ·simp only [Act.put, List.setIfInBounds_toArray, List.set_cons_zero, List.set_cons_succ, i64_w, i32_w]
    rfl
   refine pure_ (i := 4) (N := some 30) (v := ?_) (a' := ?_) (up 14 5) rfl rfl (by kernel_rfl) (fun _ _ _ h => h) (Or.inl ⟨by rfl, ?_⟩) ?_ ?_
   rotate_left
   ·intro w'
    go_simp
    with_reducible rfl
   rotate_left
   ·simp only [Act.put, List.setIfInBounds_toArray, List.set_cons_zero, List.set_cons_succ, i64_w, i32_w]
    rfl
   refine pure_ (i := 5) (N := some 31) (v := ?_) (a' := ?_) (up 14 6) rfl rfl (by kernel_rfl) (fun _ _ _ h => h) (Or.inl ⟨by rfl, ?_⟩) ?_ ?_
   rotate_left
   ·intro w'
    go_simp
    with_reducible rfl
   rotate_left
   ·simp only [Act.put, List.setIfInBounds_toArray, List.set_cons_zero, List.set_cons_succ, i64_w, i32_w]
    rfl
   refine pure_ (i := 6) (N := some 32) (v := ?_) (a' := ?_) (up 14 7) rfl rfl (by kernel_rfl) (fun _ _ _ h => h) (Or.inl ⟨by rfl, ?_⟩) ?_ ?_
   rotate_left
   ·intro w'
    go_simp
    with_reducible rfl
   rotate_left
   ·simp only [Act.put, List.setIfInBounds_toArray, List.set_cons_zero, List.set_cons_succ, i64_w, i32_w]
    rfl
   refine take_ (i := 7) (N := some 33) (v := .agg #[.int .u64 b0, .int .u64 b1, .int .u64 b2, .int .u64 b3, .int .i64 b4, .int .i64 b5]) (a' := ?_) (up 14 8) rfl rfl (by kernel_rfl) (fun _ _ _ h => h) (own_yieldN (by rfl) (x := .tmp 32) rfl (by rfl) (.head) (vs := [.int .u64 b0, .int .u64 b1, .int .u64 b2, .int .u64 b3, .int .i64 b4, .int .i64 b5]) (by rfl) hun (by rfl) (by kernel_rfl) rfl) hHeld ?_ ?_
   rotate_left
   ·simp only [Act.put, List.setIfInBounds_toArray, List.set_cons_zero, List.set_cons_succ, i64_w, i32_w]
    rfl
   refine join_ (σ := Nat × Nat) 4 (up 14 10) (fun s_ => [(6, .pointer (some ⟨s_.1, 0, none⟩)), (7, .pointer (some ⟨s_.2, 0, none⟩))]) (fun s_ w' => Own w0 w' ((s_.2, .cells #[.int .u64 0, .int .u64 0, .int .u64 0, .int .u64 0, .int .i64 0, .int .i64 0] 36 (0, 0)) :: (s_.1, .cells #[.int .u64 0, .int .u64 0, .int .u64 0, .int .u64 0, .int .i64 0, .int .i64 0] 36 (0, 0)) :: ((gp, .cells #[.int .u64 a0, .int .u64 a1, .int .u64 a2, .int .u64 a3, .int .i64 a4, .int .i64 a5, .int .u64 b0, .int .u64 b1, .int .u64 b2, .int .u64 b3, .int .i64 b4, .int .i64 b5, .bool nn] 87 (0, 0)) :: L))) ?_ ?_
   rotate_left
   ·intro hCont
    refine two_ (i := 8) (j := 9) (Ni := some 6) (Nj := some 7) (up 14 9) #[true, true, true, true, true, true, true, true, false, true, false, false, false, false] rfl rfl rfl rfl (by kernel_rfl) (by decide) (by decide) (fun K hK => ?_) (fun K hK => ?_)
    ·skip
     refine own_box_k HO.out (by rfl) (N := 6) rfl (cs := #[.int .u64 0, .int .u64 0, .int .u64 0, .int .u64 0, .int .i64 0, .int .i64 0]) (t := 36) (by first | (go_simp; done) | (go_simp; rfl) | kernel_rfl) ?_
     intro g6 w6 hO_
     clear HO; have HO := Aside0.mk hO_; clear hO_
     refine hK.out _ _ (HO.out.drop) (fun hHeld => ?_)
     clear hK K
     refine norm_ (a' := ?_) ?_ ?_
     rotate_left
     ·show Act.put _ (some 6) _ = _
      simp only [Act.put, List.setIfInBounds_toArray, List.set_cons_zero, List.set_cons_succ, i64_w, i32_w]
      rfl
     refine one_ (i := 9) (N := some 7) (up 14 10) rfl rfl (by kernel_rfl) (by decide) (fun K hK => ?_)
     refine own_box_k HO.out (by rfl) (N := 7) rfl (cs := #[.int .u64 0, .int .u64 0, .int .u64 0, .int .u64 0, .int .i64 0, .int .i64 0]) (t := 36) (by first | (go_simp; done) | (go_simp; rfl) | kernel_rfl) ?_
     intro g7 w7 hO_
     clear HO; have HO := Aside0.mk hO_; clear hO_
     refine hK.out _ _ (HO.out.drop.drop) (fun hHeld => ?_)
     clear hK K
     refine norm_ (a' := ?_) ?_ ?_
     rotate_left
     ·show Act.put _ (some 7) _ = _
      simp only [Act.put, List.setIfInBounds_toArray, List.set_cons_zero, List.set_cons_succ, i64_w, i32_w]
      rfl
     exact norm_ (by simp only [putAll, Act.put, List.setIfInBounds_toArray, List.set_cons_zero, List.set_cons_succ]) (hCont (g6, g7) _ HO.out)
    ·skip
     refine own_box_k HO.out (by rfl) (N := 7) rfl (cs := #[.int .u64 0, .int .u64 0, .int .u64 0, .int .u64 0, .int .i64 0, .int .i64 0]) (t := 36) (by first | (go_simp; done) | (go_simp; rfl) | kernel_rfl) ?_
     intro g7 w7 hO_
     clear HO; have HO := Aside0.mk hO_; clear hO_
     refine hK.out _ _ (HO.out.drop) (fun hHeld => ?_)
     clear hK K
     refine norm_ (a' := ?_) ?_ ?_
     rotate_left
     ·show Act.put _ (some 7) _ = _
      simp only [Act.put, List.setIfInBounds_toArray, List.set_cons_zero, List.set_cons_succ, i64_w, i32_w]
      rfl
     refine one_ (i := 8) (N := some 6) (up 14 10) rfl rfl (by kernel_rfl) (by decide) (fun K hK => ?_)
     refine own_box_k HO.out (by rfl) (N := 6) rfl (cs := #[.int .u64 0, .int .u64 0, .int .u64 0, .int .u64 0, .int .i64 0, .int .i64 0]) (t := 36) (by first | (go_simp; done) | (go_simp; rfl) | kernel_rfl) ?_
     intro g6 w6 hO_
     clear HO; have HO := Aside0.mk hO_; clear hO_
     refine hK.out _ _ (HO.out.drop.drop) (fun hHeld => ?_)
     clear hK K
     refine norm_ (a' := ?_) ?_ ?_
     rotate_left
     ·show Act.put _ (some 6) _ = _
      simp only [Act.put, List.setIfInBounds_toArray, List.set_cons_zero, List.set_cons_succ, i64_w, i32_w]
      rfl
     exact norm_ (by simp only [putAll, Act.put, List.setIfInBounds_toArray, List.set_cons_zero, List.set_cons_succ]) (hCont (g6, g7) _ HO.out.twoz)
   rintro ⟨g6, g7⟩ wj hO_
   clear HO
   have HO := Aside0.mk hO_
   have hHeld := HO.out.drop.drop
   clear hO_
   refine norm_ (a' := ?_) ?_ ?_
   rotate_left
   ·simp only [putAll, Act.put, List.setIfInBounds_toArray, List.set_cons_zero, List.set_cons_succ]
    rfl
   refine one_ (i := 10) (N := none) (up 14 11) rfl rfl (by kernel_rfl) (by decide) (fun K hK => ?_)
   refine own_storeN_k HO.out (by rfl) rfl (ty := 36) (x := .tmp 6) (y := .tmp 29) (vs := #[.int .u64 a0, .int .u64 a1, .int .u64 a2, .int .u64 a3, .int .i64 a4, .int .i64 a5]) (cs' := #[.int .u64 a0, .int .u64 a1, .int .u64 a2, .int .u64 a3, .int .i64 a4, .int .i64 a5]) rfl (by rfl) (by rfl) (.tail .head) (by kernel_rfl) (by kernel_rfl) (by first | decide | (simp; done)) (by rfl) ?_
   intro wc hO_
   clear HO; have HO := Aside0.mk hO_; clear hO_
   refine hK.out _ _ (HO.out.drop.drop) (fun hHeld => ?_)
   clear hK K
   refine one_ (i := 11) (N := none) (up 14 12) rfl rfl (by kernel_rfl) (by decide) (fun K hK => ?_)
   refine own_storeN_k HO.out (by rfl) rfl (ty := 36) (x := .tmp 7) (y := .tmp 33) (vs := #[.int .u64 b0, .int .u64 b1, .int .u64 b2, .int .u64 b3, .int .i64 b4, .int .i64 b5]) (cs' := #[.int .u64 b0, .int .u64 b1, .int .u64 b2, .int .u64 b3, .int .i64 b4, .int .i64 b5]) rfl (by rfl) (by rfl) (.tail .head) (by kernel_rfl) (by kernel_rfl) (by first | decide | (simp; done)) (by rfl) ?_
   intro wc hO_
   clear HO; have HO := Aside0.mk hO_; clear hO_
   refine hK.out _ _ (HO.out.drop.drop) (fun hHeld => ?_)
   clear hK K
   refine pure_ (i := 12) (N := some 8) (v := ?_) (a' := ?_) (up 14 13) rfl rfl (by kernel_rfl) (fun _ _ _ h => h) (Or.inl ⟨by rfl, ?_⟩) ?_ ?_
   rotate_left
   ·intro w'
    go_simp
    with_reducible rfl
   rotate_left
   ·simp only [Act.put, List.setIfInBounds_toArray, List.set_cons_zero, List.set_cons_succ, i64_w, i32_w]
    rfl
   refine pure_ (i := 13) (N := some 9) (v := ?_) (a' := ?_) (up 14 14) rfl rfl (by kernel_rfl) (fun _ _ _ h => h) (Or.inl ⟨by rfl, ?_⟩) ?_ ?_
   rotate_left
   ·intro w'
    go_simp
    with_reducible rfl
   rotate_left
   ·simp only [Act.put, List.setIfInBounds_toArray, List.set_cons_zero, List.set_cons_succ, i64_w, i32_w]
    rfl
   refine done_ (by kernel_rfl) ?_
   clear hHeld
   go_wp2
   refine start_ (n := 20) (S := fun W => Own w0 W [(g6, .cells #[.int .u64 a0, .int .u64 a1, .int .u64 a2, .int .u64 a3, .int .i64 a4, .int .i64 a5] 36 (0, 0)), (g7, .cells #[.int .u64 b0, .int .u64 b1, .int .u64 b2, .int .u64 b3, .int .i64 b4, .int .i64 b5] 36 (0, 0))]) (ds := []) #[false, false, false, false, false, false, false, false, false, false, false, false, false, false, false, false, false, false, false, false] (by kernel_rfl) rfl rfl (Own.drew (HO.out.picks (.cons (by (repeat (first | exact .head | apply Ext.tail))) (.cons (by (repeat (first | exact .head | apply Ext.tail))) .nil)))) (fun hHeld => ?_)
   have HO_ := Aside0.mk HO.out.drew
   clear HO
   have HO := HO_
   clear HO_
   generalize World.drew _ = wr at HO hHeld ⊢
   refine pure_ (i := 0) (N := some 54) (v := ?_) (a' := ?_) (up 20 1) rfl rfl (by kernel_rfl) (fun _ _ _ h => h) (Or.inl ⟨by rfl, ?_⟩) ?_ ?_
   rotate_left
   ·intro w'
    go_simp
    with_reducible rfl
   rotate_left
   ·simp only [Act.put, List.setIfInBounds_toArray, List.set_cons_zero, List.set_cons_succ, i64_w, i32_w]
    rfl
   refine pure_ (i := 1) (N := some 55) (v := ?_) (a' := ?_) (up 20 2) rfl rfl (by kernel_rfl) (fun _ _ _ h => h) (Or.inl ⟨by rfl, ?_⟩) ?_ ?_
   rotate_left
   ·intro w'
    go_simp
    with_reducible rfl
   rotate_left
   ·simp only [Act.put, List.setIfInBounds_toArray, List.set_cons_zero, List.set_cons_succ, i64_w, i32_w]
    rfl
   refine pure_ (i := 2) (N := some 56) (v := ?_) (a' := ?_) (up 20 3) rfl rfl (by kernel_rfl) (fun _ _ _ h => h) (Or.inl ⟨by rfl, ?_⟩) ?_ ?_
   rotate_left
   ·intro w'
    go_simp
    with_reducible rfl
   rotate_left
   ·simp only [Act.put, List.setIfInBounds_toArray, List.set_cons_zero, List.set_cons_succ, i64_w, i32_w]
    rfl
   refine take_ (i := 3) (N := some 57) (v := .agg #[.int .u64 a0, .int .u64 a1, .int .u64 a2, .int .u64 a3, .int .i64 a4, .int .i64 a5]) (a' := ?_) (up 20 4) rfl rfl (by kernel_rfl) (fun _ _ _ h => h) (own_yieldN (by rfl) (x := .tmp 6) rfl (by rfl) (.head) (vs := [.int .u64 a0, .int .u64 a1, .int .u64 a2, .int .u64 a3, .int .i64 a4, .int .i64 a5]) (by rfl) hun (by rfl) (by kernel_rfl) rfl) hHeld ?_ ?_
   rotate_left
   ·simp only [Act.put, List.setIfInBounds_toArray, List.set_cons_zero, List.set_cons_succ, i64_w, i32_w]
    rfl
   refine take_ (i := 4) (N := some 58) (v := .agg #[.int .u64 b0, .int .u64 b1, .int .u64 b2, .int .u64 b3, .int .i64 b4, .int .i64 b5]) (a' := ?_) (up 20 5) rfl rfl (by kernel_rfl) (fun _ _ _ h => h) (own_yieldN (by rfl) (x := .tmp 7) rfl (by rfl) (.tail .head) (vs := [.int .u64 b0, .int .u64 b1, .int .u64 b2, .int .u64 b3, .int .i64 b4, .int .i64 b5]) (by rfl) hun (by rfl) (by kernel_rfl) rfl) hHeld ?_ ?_
   rotate_left
   ·simp only [Act.put, List.setIfInBounds_toArray, List.set_cons_zero, List.set_cons_succ, i64_w, i32_w]
    rfl
   refine pure_ (i := 5) (N := some 59) (v := ?_) (a' := ?_) (up 20 6) rfl rfl (by kernel_rfl) (fun _ _ _ h => h) (Or.inl ⟨by rfl, ?_⟩) ?_ ?_
   rotate_left
   ·intro w'
    go_simp
    with_reducible rfl
   rotate_left
   ·simp only [Act.put, List.setIfInBounds_toArray, List.set_cons_zero, List.set_cons_succ, i64_w, i32_w]
    rfl
   refine pure_ (i := 6) (N := some 60) (v := ?_) (a' := ?_) (up 20 7) rfl rfl (by kernel_rfl) (fun _ _ _ h => h) (Or.inl ⟨by rfl, ?_⟩) ?_ ?_
   rotate_left
   ·intro w'
    go_simp
    with_reducible rfl
   rotate_left
   ·simp only [Act.put, List.setIfInBounds_toArray, List.set_cons_zero, List.set_cons_succ, i64_w, i32_w]
    rfl
   refine pure_ (i := 7) (N := some 61) (v := ?_) (a' := ?_) (up 20 8) rfl rfl (by kernel_rfl) (fun _ _ _ h => h) (Or.inl ⟨by rfl, ?_⟩) ?_ ?_
   rotate_left
   ·intro w'
    go_simp
    with_reducible rfl
   rotate_left
   ·simp only [Act.put, List.setIfInBounds_toArray, List.set_cons_zero, List.set_cons_succ, i64_w, i32_w]
    rfl
   refine pure_ (i := 8) (N := some 62) (v := ?_) (a' := ?_) (up 20 9) rfl rfl (by kernel_rfl) (fun _ _ _ h => h) (Or.inl ⟨by rfl, ?_⟩) ?_ ?_
   rotate_left
   ·intro w'
    go_simp
    with_reducible rfl
   rotate_left
   ·simp only [Act.put, List.setIfInBounds_toArray, List.set_cons_zero, List.set_cons_succ, i64_w, i32_w]
    rfl
   refine pure_ (i := 9) (N := some 63) (v := ?_) (a' := ?_) (up 20 10) rfl rfl (by kernel_rfl) (fun _ _ _ h => h) (Or.inl ⟨by rfl, ?_⟩) ?_ ?_
   rotate_left
   ·intro w'
    go_simp
    with_reducible rfl
   rotate_left
   ·simp only [Act.put, List.setIfInBounds_toArray, List.set_cons_zero, List.set_cons_succ, i64_w, i32_w]
    rfl
   refine pure_ (i := 10) (N := some 64) (v := ?_) (a' := ?_) (up 20 11) rfl rfl (by kernel_rfl) (fun _ _ _ h => h) (Or.inl ⟨by rfl, ?_⟩) ?_ ?_
   rotate_left
   ·intro w'
    go_simp
    with_reducible rfl
   rotate_left
   ·simp only [Act.put, List.setIfInBounds_toArray, List.set_cons_zero, List.set_cons_succ, i64_w, i32_w]
    rfl
   refine pure_ (i := 11) (N := some 65) (v := ?_) (a' := ?_) (up 20 12) rfl rfl (by kernel_rfl) (fun _ _ _ h => h) (Or.inl ⟨by rfl, ?_⟩) ?_ ?_
   rotate_left
   ·intro w'
    go_simp
    with_reducible rfl
   rotate_left
   ·simp only [Act.put, List.setIfInBounds_toArray, List.set_cons_zero, List.set_cons_succ, i64_w, i32_w]
    rfl
   refine pure_ (i := 12) (N := some 66) (v := ?_) (a' := ?_) (up 20 13) rfl rfl (by kernel_rfl) (fun _ _ _ h => h) (Or.inl ⟨by rfl, ?_⟩) ?_ ?_
   rotate_left
   ·intro w'
    go_simp
    with_reducible rfl
   rotate_left
   ·simp only [Act.put, List.setIfInBounds_toArray, List.set_cons_zero, List.set_cons_succ, i64_w, i32_w]
    rfl
   refine one_ (i := 13) (N := none) (up 20 14) rfl rfl (by kernel_rfl) (by decide) (fun K hK => ?_)
   refine own_storeN_k HO.out (by rfl) rfl (ty := 36) (x := .tmp 66) (y := .tmp 57) (vs := #[.int .u64 a0, .int .u64 a1, .int .u64 a2, .int .u64 a3, .int .i64 a4, .int .i64 a5]) (cs' := #[.int .u64 a0, .int .u64 a1, .int .u64 a2, .int .u64 a3, .int .i64 a4, .int .i64 a5, .int .u64 b0, .int .u64 b1, .int .u64 b2, .int .u64 b3, .int .i64 b4, .int .i64 b5, .bool nn]) rfl (by rfl) (by rfl) (by (repeat (first | exact .head | apply Ext.tail))) (by kernel_rfl) (by kernel_rfl) (by first | decide | (simp; done)) (by rfl) ?_
   intro wc hO_
   clear HO; have HO := Aside0.mk hO_; clear hO_
   refine hK.out _ _ (HO.out.picks (.cons (by (repeat (first | exact .head | apply Ext.tail))) (.cons (by (repeat (first | exact .head | apply Ext.tail))) .nil))) (fun hHeld => ?_)
   clear hK K
   refine pure_ (i := 14) (N := some 67) (v := ?_) (a' := ?_) (up 20 15) rfl rfl (by kernel_rfl) (fun _ _ _ h => h) (Or.inl ⟨by rfl, ?_⟩) ?_ ?_
   rotate_left
   ·intro w'
    go_simp
    with_reducible rfl
   rotate_left
   ·simp only [Act.put, List.setIfInBounds_toArray, List.set_cons_zero, List.set_cons_succ, i64_w, i32_w]
    rfl
   refine pure_ (i := 15) (N := some 68) (v := ?_) (a' := ?_) (up 20 16) rfl rfl (by kernel_rfl) (fun _ _ _ h => h) (Or.inl ⟨by rfl, ?_⟩) ?_ ?_
   rotate_left
   ·intro w'
    go_simp
    with_reducible rfl
   rotate_left
   ·simp only [Act.put, List.setIfInBounds_toArray, List.set_cons_zero, List.set_cons_succ, i64_w, i32_w]
    rfl
   refine one_ (i := 16) (N := none) (up 20 17) rfl rfl (by kernel_rfl) (by decide) (fun K hK => ?_)
   refine own_storeN_k HO.out (by rfl) rfl (ty := 36) (x := .tmp 68) (y := .tmp 58) (vs := #[.int .u64 b0, .int .u64 b1, .int .u64 b2, .int .u64 b3, .int .i64 b4, .int .i64 b5]) (cs' := #[.int .u64 a0, .int .u64 a1, .int .u64 a2, .int .u64 a3, .int .i64 a4, .int .i64 a5, .int .u64 b0, .int .u64 b1, .int .u64 b2, .int .u64 b3, .int .i64 b4, .int .i64 b5, .bool nn]) rfl (by rfl) (by rfl) (by (repeat (first | exact .head | apply Ext.tail))) (by kernel_rfl) (by kernel_rfl) (by first | decide | (simp; done)) (by rfl) ?_
   intro wc hO_
   clear HO; have HO := Aside0.mk hO_; clear hO_
   refine hK.out _ _ (HO.out.picks (.cons (by (repeat (first | exact .head | apply Ext.tail))) (.cons (by (repeat (first | exact .head | apply Ext.tail))) .nil))) (fun hHeld => ?_)
   clear hK K
   refine pure_ (i := 17) (N := some 69) (v := ?_) (a' := ?_) (up 20 18) rfl rfl (by kernel_rfl) (fun _ _ _ h => h) (Or.inl ⟨by rfl, ?_⟩) ?_ ?_
   rotate_left
   ·intro w'
    go_simp
    with_reducible rfl
   rotate_left
   ·simp only [Act.put, List.setIfInBounds_toArray, List.set_cons_zero, List.set_cons_succ, i64_w, i32_w]
    rfl
   refine pure_ (i := 18) (N := some 70) (v := ?_) (a' := ?_) (up 20 19) rfl rfl (by kernel_rfl) (fun _ _ _ h => h) (Or.inl ⟨by rfl, ?_⟩) ?_ ?_
   rotate_left
   ·intro w'
    go_simp
    with_reducible rfl
   rotate_left
   ·simp only [Act.put, List.setIfInBounds_toArray, List.set_cons_zero, List.set_cons_succ, i64_w, i32_w]
    rfl
   refine one_ (i := 19) (N := none) (up 20 20) rfl rfl (by kernel_rfl) (by decide) (fun K hK => ?_)
   refine own_store_k HO.out (by rfl) rfl (ty := 4) (x := .tmp 70) (y := .tmp 64) (v := .bool false) (cs' := #[.int .u64 a0, .int .u64 a1, .int .u64 a2, .int .u64 a3, .int .i64 a4, .int .i64 a5, .int .u64 b0, .int .u64 b1, .int .u64 b2, .int .u64 b3, .int .i64 b4, .int .i64 b5, .bool false]) rfl (by rfl) (by rfl) (by (repeat (first | exact .head | apply Ext.tail))) (by kernel_rfl) (by rfl) (by first | decide | (simp; done)) (by rfl) ?_
   intro wc hO_
   clear HO; have HO := Aside0.mk hO_; clear hO_
   refine hK.out _ _ (HO.out.picks (.cons (by (repeat (first | exact .head | apply Ext.tail))) (.cons (by (repeat (first | exact .head | apply Ext.tail))) .nil))) (fun hHeld => ?_)
   clear hK K
   refine done_ (by kernel_rfl) ?_
   clear hHeld
   (first | go_end0 | refine bodyPost_ret (results_none rfl _ _ _) rfl ?_)
   exact ⟨rfl, HO.out.mid.mid⟩
  | true =>
   have HV2 : Aside0 (narrow_without.f k b0 b1 b2 b3 b4 b5 xc = some (v0, v1, v2, v3, v4, v5, vb)) := ⟨(if_pos rfl).symm.trans HV.out⟩
   go_enter Try.func94, Try.ntmps94
   go_wp2_with (first | ((with_reducible refine gate_dst (N := 14) rfl ?_); refine own_loadN HO.out rfl (x := .tmp 13) rfl (by rfl) (.head) (vs := [.int .u64 a0, .int .u64 a1, .int .u64 a2, .int .u64 a3, .int .i64 a4, .int .i64 a5]) (by rfl) hun (by rfl) (by kernel_rfl) (va := #[.int .u64 a0, .int .u64 a1, .int .u64 a2, .int .u64 a3, .int .i64 a4, .int .i64 a5]) rfl ?_) | ((with_reducible refine gate_callee (f := 25) rfl ?_); (with_reducible refine gate_dst (N := 15) rfl ?_); refine goesL_ (some 15) rfl rfl Try.func25 (by kernel_rfl) rfl #[.agg #[.int .u64 a0, .int .u64 a1, .int .u64 a2, .int .u64 a3, .int .i64 a4, .int .i64 a5]] rfl (by (try simp only [List.map_toArray, List.map_cons, List.map_nil]); first | done | rfl) ?_; (with_reducible refine (num_IsConst.calls a0 a1 a2 a3 a4 a5 xc _ _ HX.out).mono ?_); rintro e wx ⟨rfl, hb⟩; refine ⟨_, rfl, ?_⟩; have hO_ := HO.out.below hb; clear hb; clear HO; have HO := Aside0.mk hO_; clear hO_) | ((with_reducible refine gate_dst (N := 22) rfl ?_); refine own_loadN HO.out rfl (x := .tmp 21) rfl (by rfl) (.head) (vs := [.int .u64 b0, .int .u64 b1, .int .u64 b2, .int .u64 b3, .int .i64 b4, .int .i64 b5]) (by rfl) hun (by rfl) (by kernel_rfl) (va := #[.int .u64 b0, .int .u64 b1, .int .u64 b2, .int .u64 b3, .int .i64 b4, .int .i64 b5]) rfl ?_) | ((with_reducible refine gate_callee (f := 25) rfl ?_); (with_reducible refine gate_dst (N := 23) rfl ?_); refine goesL_ (some 23) rfl rfl Try.func25 (by kernel_rfl) rfl #[.agg #[.int .u64 b0, .int .u64 b1, .int .u64 b2, .int .u64 b3, .int .i64 b4, .int .i64 b5]] rfl (by (try simp only [List.map_toArray, List.map_cons, List.map_nil]); first | done | rfl) ?_; (with_reducible refine (num_IsConst.calls b0 b1 b2 b3 b4 b5 yc _ _ HY.out).mono ?_); rintro e wx ⟨rfl, hb⟩; refine ⟨_, rfl, ?_⟩; have hO_ := HO.out.below hb; clear hb; clear HO; have HO := Aside0.mk hO_; clear hO_))
   refine start_ (n := 14) (S := fun W => Own w0 W ((gp, .cells #[.int .u64 a0, .int .u64 a1, .int .u64 a2, .int .u64 a3, .int .i64 a4, .int .i64 a5, .int .u64 b0, .int .u64 b1, .int .u64 b2, .int .u64 b3, .int .i64 b4, .int .i64 b5, .bool nn] 87 (0, 0)) :: L)) (ds := []) #[false, false, false, false, false, false, false, false, false, false, false, false, false, false] (by kernel_rfl) rfl rfl (Own.drew (HO.out)) (fun hHeld => ?_)
   have HO_ := Aside0.mk HO.out.drew
   clear HO
   have HO := HO_
   clear HO_
   generalize World.drew _ = wr at HO hHeld ⊢
   refine pure_ (i := 0) (N := some 26) (v := ?_) (a' := ?_) (up 14 1) rfl rfl (by kernel_rfl) (fun _ _ _ h => h) (Or.inl ⟨by rfl, ?_⟩) ?_ ?_
   rotate_left
   ·intro w'
    go_simp
    with_reducible rfl
   rotate_left
   ·simp only [Act.put, List.setIfInBounds_toArray, List.set_cons_zero, List.set_cons_succ, i64_w, i32_w]
    rfl
   refine pure_ (i := 1) (N := some 27) (v := ?_) (a' := ?_) (up 14 2) rfl rfl (by kernel_rfl) (fun _ _ _ h => h) (Or.inl ⟨by rfl, ?_⟩) ?_ ?_
   rotate_left
   ·intro w'
    go_simp
    with_reducible rfl
   rotate_left
   ·simp only [Act.put, List.setIfInBounds_toArray, List.set_cons_zero, List.set_cons_succ, i64_w, i32_w]
    rfl
   refine pure_ (i := 2) (N := some 28) (v := ?_) (a' := ?_) (up 14 3) rfl rfl (by kernel_rfl) (fun _ _ _ h => h) (Or.inl ⟨by rfl, ?_⟩) ?_ ?_
   rotate_left
   ·intro w'
    go_simp
    with_reducible rfl
   rotate_left
   ·simp only [Act.put, List.setIfInBounds_toArray, List.set_cons_zero, List.set_cons_succ, i64_w, i32_w]
    rfl
   refine take_ (i := 3) (N := some 29) (v := .agg #[.int .u64 a0, .int .u64 a1, .int .u64 a2, .int .u64 a3, .int .i64 a4, .int .i64 a5]) (a' := ?_) (up 14 4) rfl rfl (by kernel_rfl) (fun _ _ _ h => h) (own_yieldN (by rfl) (x := .tmp 28) rfl (by rfl) (.head) (vs := [.int .u64 a0, .int .u64 a1, .int .u64 a2, .int .u64 a3, .int .i64 a4, .int .i64 a5]) (by rfl) hun (by rfl) (by kernel_rfl) rfl) hHeld ?_ ?_
   rotate_left
   ·simp only [Act.put, List.setIfInBounds_toArray, List.set_cons_zero, List.set_cons_succ, i64_w, i32_w]
    rfl
   refine pure_ (i := 4) (N := some 30) (v := ?_) (a' := ?_) (up 14 5) rfl rfl (by kernel_rfl) (fun _ _ _ h => h) (Or.inl ⟨by rfl, ?_⟩) ?_ ?_
   rotate_left
   ·intro w'
    go_simp
    with_reducible rfl
   rotate_left
   ·simp only [Act.put, List.setIfInBounds_toArray, List.set_cons_zero, List.set_cons_succ, i64_w, i32_w]
    rfl
   refine pure_ (i := 5) (N := some 31) (v := ?_) (a' := ?_) (up 14 6) rfl rfl (by kernel_rfl) (fun _ _ _ h => h) (Or.inl ⟨by rfl, ?_⟩) ?_ ?_
   rotate_left
   ·intro w'
    go_simp
    with_reducible rfl
   rotate_left
   ·simp only [Act.put, List.setIfInBounds_toArray, List.set_cons_zero, List.set_cons_succ, i64_w, i32_w]
    rfl
   refine pure_ (i := 6) (N := some 32) (v := ?_) (a' := ?_) (up 14 7) rfl rfl (by kernel_rfl) (fun _ _ _ h => h) (Or.inl ⟨by rfl, ?_⟩) ?_ ?_
   rotate_left
   ·intro w'
    go_simp
    with_reducible rfl
   rotate_left
   ·simp only [Act.put, List.setIfInBounds_toArray, List.set_cons_zero, List.set_cons_succ, i64_w, i32_w]
    rfl
   refine take_ (i := 7) (N := some 33) (v := .agg #[.int .u64 b0, .int .u64 b1, .int .u64 b2, .int .u64 b3, .int .i64 b4, .int .i64 b5]) (a' := ?_) (up 14 8) rfl rfl (by kernel_rfl) (fun _ _ _ h => h) (own_yieldN (by rfl) (x := .tmp 32) rfl (by rfl) (.head) (vs := [.int .u64 b0, .int .u64 b1, .int .u64 b2, .int .u64 b3, .int .i64 b4, .int .i64 b5]) (by rfl) hun (by rfl) (by kernel_rfl) rfl) hHeld ?_ ?_
   rotate_left
   ·simp only [Act.put, List.setIfInBounds_toArray, List.set_cons_zero, List.set_cons_succ, i64_w, i32_w]
    rfl
   refine join_ (σ := Nat × Nat) 4 (up 14 10) (fun s_ => [(6, .pointer (some ⟨s_.1, 0, none⟩)), (7, .pointer (some ⟨s_.2, 0, none⟩))]) (fun s_ w' => Own w0 w' ((s_.2, .cells #[.int .u64 0, .int .u64 0, .int .u64 0, .int .u64 0, .int .i64 0, .int .i64 0] 36 (0, 0)) :: (s_.1, .cells #[.int .u64 0, .int .u64 0, .int .u64 0, .int .u64 0, .int .i64 0, .int .i64 0] 36 (0, 0)) :: ((gp, .cells #[.int .u64 a0, .int .u64 a1, .int .u64 a2, .int .u64 a3, .int .i64 a4, .int .i64 a5, .int .u64 b0, .int .u64 b1, .int .u64 b2, .int .u64 b3, .int .i64 b4, .int .i64 b5, .bool nn] 87 (0, 0)) :: L))) ?_ ?_
   rotate_left
   ·intro hCont
    refine two_ (i := 8) (j := 9) (Ni := some 6) (Nj := some 7) (up 14 9) #[true, true, true, true, true, true, true, true, false, true, false, false, false, false] rfl rfl rfl rfl (by kernel_rfl) (by decide) (by decide) (fun K hK => ?_) (fun K hK => ?_)
    ·skip
     refine own_box_k HO.out (by rfl) (N := 6) rfl (cs := #[.int .u64 0, .int .u64 0, .int .u64 0, .int .u64 0, .int .i64 0, .int .i64 0]) (t := 36) (by first | (go_simp; done) | (go_simp; rfl) | kernel_rfl) ?_
     intro g6 w6 hO_
     clear HO; have HO := Aside0.mk hO_; clear hO_
     refine hK.out _ _ (HO.out.drop) (fun hHeld => ?_)
     clear hK K
     refine norm_ (a' := ?_) ?_ ?_
     rotate_left
     ·show Act.put _ (some 6) _ = _
      simp only [Act.put, List.setIfInBounds_toArray, List.set_cons_zero, List.set_cons_succ, i64_w, i32_w]
      rfl
     refine one_ (i := 9) (N := some 7) (up 14 10) rfl rfl (by kernel_rfl) (by decide) (fun K hK => ?_)
     refine own_box_k HO.out (by rfl) (N := 7) rfl (cs := #[.int .u64 0, .int .u64 0, .int .u64 0, .int .u64 0, .int .i64 0, .int .i64 0]) (t := 36) (by first | (go_simp; done) | (go_simp; rfl) | kernel_rfl) ?_
     intro g7 w7 hO_
     clear HO; have HO := Aside0.mk hO_; clear hO_
     refine hK.out _ _ (HO.out.drop.drop) (fun hHeld => ?_)
     clear hK K
     refine norm_ (a' := ?_) ?_ ?_
     rotate_left
     ·show Act.put _ (some 7) _ = _
      simp only [Act.put, List.setIfInBounds_toArray, List.set_cons_zero, List.set_cons_succ, i64_w, i32_w]
      rfl
     exact norm_ (by simp only [putAll, Act.put, List.setIfInBounds_toArray, List.set_cons_zero, List.set_cons_succ]) (hCont (g6, g7) _ HO.out)
    ·skip
     refine own_box_k HO.out (by rfl) (N := 7) rfl (cs := #[.int .u64 0, .int .u64 0, .int .u64 0, .int .u64 0, .int .i64 0, .int .i64 0]) (t := 36) (by first | (go_simp; done) | (go_simp; rfl) | kernel_rfl) ?_
     intro g7 w7 hO_
     clear HO; have HO := Aside0.mk hO_; clear hO_
     refine hK.out _ _ (HO.out.drop) (fun hHeld => ?_)
     clear hK K
     refine norm_ (a' := ?_) ?_ ?_
     rotate_left
     ·show Act.put _ (some 7) _ = _
      simp only [Act.put, List.setIfInBounds_toArray, List.set_cons_zero, List.set_cons_succ, i64_w, i32_w]
      rfl
     refine one_ (i := 8) (N := some 6) (up 14 10) rfl rfl (by kernel_rfl) (by decide) (fun K hK => ?_)
     refine own_box_k HO.out (by rfl) (N := 6) rfl (cs := #[.int .u64 0, .int .u64 0, .int .u64 0, .int .u64 0, .int .i64 0, .int .i64 0]) (t := 36) (by first | (go_simp; done) | (go_simp; rfl) | kernel_rfl) ?_
     intro g6 w6 hO_
     clear HO; have HO := Aside0.mk hO_; clear hO_
     refine hK.out _ _ (HO.out.drop.drop) (fun hHeld => ?_)
     clear hK K
     refine norm_ (a' := ?_) ?_ ?_
     rotate_left
     ·show Act.put _ (some 6) _ = _
      simp only [Act.put, List.setIfInBounds_toArray, List.set_cons_zero, List.set_cons_succ, i64_w, i32_w]
      rfl
     exact norm_ (by simp only [putAll, Act.put, List.setIfInBounds_toArray, List.set_cons_zero, List.set_cons_succ]) (hCont (g6, g7) _ HO.out.twoz)
   rintro ⟨g6, g7⟩ wj hO_
   clear HO
   have HO := Aside0.mk hO_
   have hHeld := HO.out.drop.drop
   clear hO_
   refine norm_ (a' := ?_) ?_ ?_
   rotate_left
   ·simp only [putAll, Act.put, List.setIfInBounds_toArray, List.set_cons_zero, List.set_cons_succ]
    rfl
   refine one_ (i := 10) (N := none) (up 14 11) rfl rfl (by kernel_rfl) (by decide) (fun K hK => ?_)
   refine own_storeN_k HO.out (by rfl) rfl (ty := 36) (x := .tmp 6) (y := .tmp 29) (vs := #[.int .u64 a0, .int .u64 a1, .int .u64 a2, .int .u64 a3, .int .i64 a4, .int .i64 a5]) (cs' := #[.int .u64 a0, .int .u64 a1, .int .u64 a2, .int .u64 a3, .int .i64 a4, .int .i64 a5]) rfl (by rfl) (by rfl) (.tail .head) (by kernel_rfl) (by kernel_rfl) (by first | decide | (simp; done)) (by rfl) ?_
   intro wc hO_
   clear HO; have HO := Aside0.mk hO_; clear hO_
   refine hK.out _ _ (HO.out.drop.drop) (fun hHeld => ?_)
   clear hK K
   refine one_ (i := 11) (N := none) (up 14 12) rfl rfl (by kernel_rfl) (by decide) (fun K hK => ?_)
   refine own_storeN_k HO.out (by rfl) rfl (ty := 36) (x := .tmp 7) (y := .tmp 33) (vs := #[.int .u64 b0, .int .u64 b1, .int .u64 b2, .int .u64 b3, .int .i64 b4, .int .i64 b5]) (cs' := #[.int .u64 b0, .int .u64 b1, .int .u64 b2, .int .u64 b3, .int .i64 b4, .int .i64 b5]) rfl (by rfl) (by rfl) (.tail .head) (by kernel_rfl) (by kernel_rfl) (by first | decide | (simp; done)) (by rfl) ?_
   intro wc hO_
   clear HO; have HO := Aside0.mk hO_; clear hO_
   refine hK.out _ _ (HO.out.drop.drop) (fun hHeld => ?_)
   clear hK K
   refine pure_ (i := 12) (N := some 8) (v := ?_) (a' := ?_) (up 14 13) rfl rfl (by kernel_rfl) (fun _ _ _ h => h) (Or.inl ⟨by rfl, ?_⟩) ?_ ?_
   rotate_left
   ·intro w'
    go_simp
    with_reducible rfl
   rotate_left
   ·simp only [Act.put, List.setIfInBounds_toArray, List.set_cons_zero, List.set_cons_succ, i64_w, i32_w]
    rfl
   refine pure_ (i := 13) (N := some 9) (v := ?_) (a' := ?_) (up 14 14) rfl rfl (by kernel_rfl) (fun _ _ _ h => h) (Or.inl ⟨by rfl, ?_⟩) ?_ ?_
   rotate_left
   ·intro w'
    go_simp
    with_reducible rfl
   rotate_left
   ·simp only [Act.put, List.setIfInBounds_toArray, List.set_cons_zero, List.set_cons_succ, i64_w, i32_w]
    rfl
   refine done_ (by kernel_rfl) ?_
   clear hHeld
   go_wp2_with (first | ((with_reducible refine gate_dst (N := 49) rfl ?_); refine own_loadN HO.out rfl (x := .tmp 48) rfl (by rfl) (by (repeat (first | exact .head | apply Ext.tail))) (vs := [.int .u64 b0, .int .u64 b1, .int .u64 b2, .int .u64 b3, .int .i64 b4, .int .i64 b5]) (by rfl) hun (by rfl) (by kernel_rfl) (va := #[.int .u64 b0, .int .u64 b1, .int .u64 b2, .int .u64 b3, .int .i64 b4, .int .i64 b5]) rfl ?_) | ((with_reducible refine gate_callee (f := 103) rfl ?_); (with_reducible refine gate_dst (N := 51) rfl ?_); refine goesL_ (some 51) rfl rfl Try.func103 (by kernel_rfl) rfl #[.agg #[.int .u64 b0, .int .u64 b1, .int .u64 b2, .int .u64 b3, .int .i64 b4, .int .i64 b5], .int .u64 xc] rfl (by (try simp only [List.map_toArray, List.map_cons, List.map_nil]); first | done | rfl) ?_; (with_reducible refine (narrow_without.calls k b0 b1 b2 b3 b4 b5 xc v0 v1 v2 v3 v4 v5 _ _ HV2.out).mono ?_); rintro e wx ⟨rfl, hb⟩; refine ⟨_, rfl, ?_⟩; have hO_ := HO.out.below hb; clear hb; clear HO; have HO := Aside0.mk hO_; clear hO_) | ((with_reducible refine gate_store (p := 7) rfl ?_); refine own_storeN HO.out rfl (ty := 36) (x := .tmp 7) (y := .tmp 52) (vs := #[.int .u64 v0, .int .u64 v1, .int .u64 v2, .int .u64 v3, .int .i64 v4, .int .i64 v5]) (cs' := #[.int .u64 v0, .int .u64 v1, .int .u64 v2, .int .u64 v3, .int .i64 v4, .int .i64 v5]) rfl (by rfl) (by rfl) (by (repeat (first | exact .head | apply Ext.tail))) (by kernel_rfl) (by kernel_rfl) (by first | decide | (simp; done)) (by rfl) ?_; intro wc hO_; clear HO; have HO := Aside0.mk hO_; clear hO_))
   refine start_ (n := 20) (S := fun W => Own w0 W [(g6, .cells #[.int .u64 a0, .int .u64 a1, .int .u64 a2, .int .u64 a3, .int .i64 a4, .int .i64 a5] 36 (0, 0)), (g7, .cells #[.int .u64 v0, .int .u64 v1, .int .u64 v2, .int .u64 v3, .int .i64 v4, .int .i64 v5] 36 (0, 0))]) (ds := []) #[false, false, false, false, false, false, false, false, false, false, false, false, false, false, false, false, false, false, false, false] (by kernel_rfl) rfl rfl (Own.drew (HO.out.picks (.cons (by (repeat (first | exact .head | apply Ext.tail))) (.cons (by (repeat (first | exact .head | apply Ext.tail))) .nil)))) (fun hHeld => ?_)
   have HO_ := Aside0.mk HO.out.drew
   clear HO
   have HO := HO_
   clear HO_
   generalize World.drew _ = wr at HO hHeld ⊢
   refine pure_ (i := 0) (N := some 54) (v := ?_) (a' := ?_) (up 20 1) rfl rfl (by kernel_rfl) (fun _ _ _ h => h) (Or.inl ⟨by rfl, ?_⟩) ?_ ?_
   rotate_left
   ·intro w'
    go_simp
    with_reducible rfl
   rotate_left
   ·simp only [Act.put, List.setIfInBounds_toArray, List.set_cons_zero, List.set_cons_succ, i64_w, i32_w]
    rfl
   refine pure_ (i := 1) (N := some 55) (v := ?_) (a' := ?_) (up 20 2) rfl rfl (by kernel_rfl) (fun _ _ _ h => h) (Or.inl ⟨by rfl, ?_⟩) ?_ ?_
   rotate_left
   ·intro w'
    go_simp
    with_reducible rfl
   rotate_left
   ·simp only [Act.put, List.setIfInBounds_toArray, List.set_cons_zero, List.set_cons_succ, i64_w, i32_w]
    rfl
   refine pure_ (i := 2) (N := some 56) (v := ?_) (a' := ?_) (up 20 3) rfl rfl (by kernel_rfl) (fun _ _ _ h => h) (Or.inl ⟨by rfl, ?_⟩) ?_ ?_
   rotate_left
   ·intro w'
    go_simp
    with_reducible rfl
   rotate_left
   ·simp only [Act.put, List.setIfInBounds_toArray, List.set_cons_zero, List.set_cons_succ, i64_w, i32_w]
    rfl
   refine take_ (i := 3) (N := some 57) (v := .agg #[.int .u64 a0, .int .u64 a1, .int .u64 a2, .int .u64 a3, .int .i64 a4, .int .i64 a5]) (a' := ?_) (up 20 4) rfl rfl (by kernel_rfl) (fun _ _ _ h => h) (own_yieldN (by rfl) (x := .tmp 6) rfl (by rfl) (.head) (vs := [.int .u64 a0, .int .u64 a1, .int .u64 a2, .int .u64 a3, .int .i64 a4, .int .i64 a5]) (by rfl) hun (by rfl) (by kernel_rfl) rfl) hHeld ?_ ?_
   rotate_left
   ·simp only [Act.put, List.setIfInBounds_toArray, List.set_cons_zero, List.set_cons_succ, i64_w, i32_w]
    rfl
   refine take_ (i := 4) (N := some 58) (v := .agg #[.int .u64 v0, .int .u64 v1, .int .u64 v2, .int .u64 v3, .int .i64 v4, .int .i64 v5]) (a' := ?_) (up 20 5) rfl rfl (by kernel_rfl) (fun _ _ _ h => h) (own_yieldN (by rfl) (x := .tmp 7) rfl (by rfl) (.tail .head) (vs := [.int .u64 v0, .int .u64 v1, .int .u64 v2, .int .u64 v3, .int .i64 v4, .int .i64 v5]) (by rfl) hun (by rfl) (by kernel_rfl) rfl) hHeld ?_ ?_
   rotate_left
   ·simp only [Act.put, List.setIfInBounds_toArray, List.set_cons_zero, List.set_cons_succ, i64_w, i32_w]
    rfl
   refine pure_ (i := 5) (N := some 59) (v := ?_) (a' := ?_) (up 20 6) rfl rfl (by kernel_rfl) (fun _ _ _ h => h) (Or.inl ⟨by rfl, ?_⟩) ?_ ?_
   rotate_left
   ·intro w'
    go_simp
    with_reducible rfl
   rotate_left
   ·simp only [Act.put, List.setIfInBounds_toArray, List.set_cons_zero, List.set_cons_succ, i64_w, i32_w]
    rfl
   refine pure_ (i := 6) (N := some 60) (v := ?_) (a' := ?_) (up 20 7) rfl rfl (by kernel_rfl) (fun _ _ _ h => h) (Or.inl ⟨by rfl, ?_⟩) ?_ ?_
   rotate_left
   ·intro w'
    go_simp
    with_reducible rfl
   rotate_left
   ·simp only [Act.put, List.setIfInBounds_toArray, List.set_cons_zero, List.set_cons_succ, i64_w, i32_w]
    rfl
   refine pure_ (i := 7) (N := some 61) (v := ?_) (a' := ?_) (up 20 8) rfl rfl (by kernel_rfl) (fun _ _ _ h => h) (Or.inl ⟨by rfl, ?_⟩) ?_ ?_
   rotate_left
   ·intro w'
    go_simp
    with_reducible rfl
   rotate_left
   ·simp only [Act.put, List.setIfInBounds_toArray, List.set_cons_zero, List.set_cons_succ, i64_w, i32_w]
    rfl
   refine pure_ (i := 8) (N := some 62) (v := ?_) (a' := ?_) (up 20 9) rfl rfl (by kernel_rfl) (fun _ _ _ h => h) (Or.inl ⟨by rfl, ?_⟩) ?_ ?_
   rotate_left
   ·intro w'
    go_simp
    with_reducible rfl
   rotate_left
   ·simp only [Act.put, List.setIfInBounds_toArray, List.set_cons_zero, List.set_cons_succ, i64_w, i32_w]
    rfl
   refine pure_ (i := 9) (N := some 63) (v := ?_) (a' := ?_) (up 20 10) rfl rfl (by kernel_rfl) (fun _ _ _ h => h) (Or.inl ⟨by rfl, ?_⟩) ?_ ?_
   rotate_left
   ·intro w'
    go_simp
    with_reducible rfl
   rotate_left
   ·simp only [Act.put, List.setIfInBounds_toArray, List.set_cons_zero, List.set_cons_succ, i64_w, i32_w]
    rfl
   refine pure_ (i := 10) (N := some 64) (v := ?_) (a' := ?_) (up 20 11) rfl rfl (by kernel_rfl) (fun _ _ _ h => h) (Or.inl ⟨by rfl, ?_⟩) ?_ ?_
   rotate_left
   ·intro w'
    go_simp
    with_reducible rfl
   rotate_left
   ·simp only [Act.put, List.setIfInBounds_toArray, List.set_cons_zero, List.set_cons_succ, i64_w, i32_w]
    rfl
   refine pure_ (i := 11) (N := some 65) (v := ?_) (a' := ?_) (up 20 12) rfl rfl (by kernel_rfl) (fun _ _ _ h => h) (Or.inl ⟨by rfl, ?_⟩) ?_ ?_
   rotate_left
   ·intro w'
    go_simp
    with_reducible rfl
   rotate_left
   ·simp only [Act.put, List.setIfInBounds_toArray, List.set_cons_zero, List.set_cons_succ, i64_w, i32_w]
    rfl
   refine pure_ (i := 12) (N := some 66) (v := ?_) (a' := ?_) (up 20 13) rfl rfl (by kernel_rfl) (fun _ _ _ h => h) (Or.inl ⟨by rfl, ?_⟩) ?_ ?_
   rotate_left
   ·intro w'
    go_simp
    with_reducible rfl
   rotate_left
   ·simp only [Act.put, List.setIfInBounds_toArray, List.set_cons_zero, List.set_cons_succ, i64_w, i32_w]
    rfl
   refine one_ (i := 13) (N := none) (up 20 14) rfl rfl (by kernel_rfl) (by decide) (fun K hK => ?_)
   refine own_storeN_k HO.out (by rfl) rfl (ty := 36) (x := .tmp 66) (y := .tmp 57) (vs := #[.int .u64 a0, .int .u64 a1, .int .u64 a2, .int .u64 a3, .int .i64 a4, .int .i64 a5]) (cs' := #[.int .u64 a0, .int .u64 a1, .int .u64 a2, .int .u64 a3, .int .i64 a4, .int .i64 a5, .int .u64 b0, .int .u64 b1, .int .u64 b2, .int .u64 b3, .int .i64 b4, .int .i64 b5, .bool nn]) rfl (by rfl) (by rfl) (by (repeat (first | exact .head | apply Ext.tail))) (by kernel_rfl) (by kernel_rfl) (by first | decide | (simp; done)) (by rfl) ?_
   intro wc hO_
   clear HO; have HO := Aside0.mk hO_; clear hO_
   refine hK.out _ _ (HO.out.picks (.cons (by (repeat (first | exact .head | apply Ext.tail))) (.cons (by (repeat (first | exact .head | apply Ext.tail))) .nil))) (fun hHeld => ?_)
   clear hK K
   refine pure_ (i := 14) (N := some 67) (v := ?_) (a' := ?_) (up 20 15) rfl rfl (by kernel_rfl) (fun _ _ _ h => h) (Or.inl ⟨by rfl, ?_⟩) ?_ ?_
   rotate_left
   ·intro w'
    go_simp
    with_reducible rfl
   rotate_left
   ·simp only [Act.put, List.setIfInBounds_toArray, List.set_cons_zero, List.set_cons_succ, i64_w, i32_w]
    rfl
   refine pure_ (i := 15) (N := some 68) (v := ?_) (a' := ?_) (up 20 16) rfl rfl (by kernel_rfl) (fun _ _ _ h => h) (Or.inl ⟨by rfl, ?_⟩) ?_ ?_
   rotate_left
   ·intro w'
    go_simp
    with_reducible rfl
   rotate_left
   ·simp only [Act.put, List.setIfInBounds_toArray, List.set_cons_zero, List.set_cons_succ, i64_w, i32_w]
    rfl
   refine one_ (i := 16) (N := none) (up 20 17) rfl rfl (by kernel_rfl) (by decide) (fun K hK => ?_)
   refine own_storeN_k HO.out (by rfl) rfl (ty := 36) (x := .tmp 68) (y := .tmp 58) (vs := #[.int .u64 v0, .int .u64 v1, .int .u64 v2, .int .u64 v3, .int .i64 v4, .int .i64 v5]) (cs' := #[.int .u64 a0, .int .u64 a1, .int .u64 a2, .int .u64 a3, .int .i64 a4, .int .i64 a5, .int .u64 v0, .int .u64 v1, .int .u64 v2, .int .u64 v3, .int .i64 v4, .int .i64 v5, .bool nn]) rfl (by rfl) (by rfl) (by (repeat (first | exact .head | apply Ext.tail))) (by kernel_rfl) (by kernel_rfl) (by first | decide | (simp; done)) (by rfl) ?_
   intro wc hO_
   clear HO; have HO := Aside0.mk hO_; clear hO_
   refine hK.out _ _ (HO.out.picks (.cons (by (repeat (first | exact .head | apply Ext.tail))) (.cons (by (repeat (first | exact .head | apply Ext.tail))) .nil))) (fun hHeld => ?_)
   clear hK K
   refine pure_ (i := 17) (N := some 69) (v := ?_) (a' := ?_) (up 20 18) rfl rfl (by kernel_rfl) (fun _ _ _ h => h) (Or.inl ⟨by rfl, ?_⟩) ?_ ?_
   rotate_left
   ·intro w'
    go_simp
    with_reducible rfl
   rotate_left
   ·simp only [Act.put, List.setIfInBounds_toArray, List.set_cons_zero, List.set_cons_succ, i64_w, i32_w]
    rfl
   refine pure_ (i := 18) (N := some 70) (v := ?_) (a' := ?_) (up 20 19) rfl rfl (by kernel_rfl) (fun _ _ _ h => h) (Or.inl ⟨by rfl, ?_⟩) ?_ ?_
   rotate_left
   ·intro w'
    go_simp
    with_reducible rfl
   rotate_left
   ·simp only [Act.put, List.setIfInBounds_toArray, List.set_cons_zero, List.set_cons_succ, i64_w, i32_w]
    rfl
   refine one_ (i := 19) (N := none) (up 20 20) rfl rfl (by kernel_rfl) (by decide) (fun K hK => ?_)
   refine own_store_k HO.out (by rfl) rfl (ty := 4) (x := .tmp 70) (y := .tmp 64) (v := .bool (!vb)) (cs' := #[.int .u64 a0, .int .u64 a1, .int .u64 a2, .int .u64 a3, .int .i64 a4, .int .i64 a5, .int .u64 v0, .int .u64 v1, .int .u64 v2, .int .u64 v3, .int .i64 v4, .int .i64 v5, .bool (!vb)]) rfl (by rfl) (by rfl) (by (repeat (first | exact .head | apply Ext.tail))) (by kernel_rfl) (by rfl) (by first | decide | (simp; done)) (by rfl) ?_
   intro wc hO_
   clear HO; have HO := Aside0.mk hO_; clear hO_
   refine hK.out _ _ (HO.out.picks (.cons (by (repeat (first | exact .head | apply Ext.tail))) (.cons (by (repeat (first | exact .head | apply Ext.tail))) .nil))) (fun hHeld => ?_)
   clear hK K
   refine done_ (by kernel_rfl) ?_
   clear hHeld
   (first | go_end0 | refine bodyPost_ret (results_none rfl _ _ _) rfl ?_)
   exact ⟨rfl, HO.out.mid.mid⟩
 | true =>
  cases ub with
  | false =>
   cases xb with
   | false =>
    have e_ := Option.some.inj HV.out
    simp only [Prod.mk.injEq] at e_
    obtain ⟨rfl, rfl, rfl, rfl, rfl, rfl, rfl⟩ := e_
    clear HV
    have HU2 : Aside0 (narrow_without.f k a0 a1 a2 a3 a4 a5 yc = some (u0, u1, u2, u3, u4, u5, false)) := ⟨(if_pos rfl).symm.trans HU.out⟩
    go_enter Try.func94, Try.ntmps94
    go_wp2_with (first | ((with_reducible refine gate_dst (N := 14) rfl ?_); refine own_loadN HO.out rfl (x := .tmp 13) rfl (by rfl) (.head) (vs := [.int .u64 a0, .int .u64 a1, .int .u64 a2, .int .u64 a3, .int .i64 a4, .int .i64 a5]) (by rfl) hun (by rfl) (by kernel_rfl) (va := #[.int .u64 a0, .int .u64 a1, .int .u64 a2, .int .u64 a3, .int .i64 a4, .int .i64 a5]) rfl ?_) | ((with_reducible refine gate_callee (f := 25) rfl ?_); (with_reducible refine gate_dst (N := 15) rfl ?_); refine goesL_ (some 15) rfl rfl Try.func25 (by kernel_rfl) rfl #[.agg #[.int .u64 a0, .int .u64 a1, .int .u64 a2, .int .u64 a3, .int .i64 a4, .int .i64 a5]] rfl (by (try simp only [List.map_toArray, List.map_cons, List.map_nil]); first | done | rfl) ?_; (with_reducible refine (num_IsConst.calls a0 a1 a2 a3 a4 a5 xc _ _ HX.out).mono ?_); rintro e wx ⟨rfl, hb⟩; refine ⟨_, rfl, ?_⟩; have hO_ := HO.out.below hb; clear hb; clear HO; have HO := Aside0.mk hO_; clear hO_) | ((with_reducible refine gate_dst (N := 22) rfl ?_); refine own_loadN HO.out rfl (x := .tmp 21) rfl (by rfl) (.head) (vs := [.int .u64 b0, .int .u64 b1, .int .u64 b2, .int .u64 b3, .int .i64 b4, .int .i64 b5]) (by rfl) hun (by rfl) (by kernel_rfl) (va := #[.int .u64 b0, .int .u64 b1, .int .u64 b2, .int .u64 b3, .int .i64 b4, .int .i64 b5]) rfl ?_) | ((with_reducible refine gate_callee (f := 25) rfl ?_); (with_reducible refine gate_dst (N := 23) rfl ?_); refine goesL_ (some 23) rfl rfl Try.func25 (by kernel_rfl) rfl #[.agg #[.int .u64 b0, .int .u64 b1, .int .u64 b2, .int .u64 b3, .int .i64 b4, .int .i64 b5]] rfl (by (try simp only [List.map_toArray, List.map_cons, List.map_nil]); first | done | rfl) ?_; (with_reducible refine (num_IsConst.calls b0 b1 b2 b3 b4 b5 yc _ _ HY.out).mono ?_); rintro e wx ⟨rfl, hb⟩; refine ⟨_, rfl, ?_⟩; have hO_ := HO.out.below hb; clear hb; clear HO; have HO := Aside0.mk hO_; clear hO_))
    refine start_ (n := 14) (S := fun W => Own w0 W ((gp, .cells #[.int .u64 a0, .int .u64 a1, .int .u64 a2, .int .u64 a3, .int .i64 a4, .int .i64 a5, .int .u64 b0, .int .u64 b1, .int .u64 b2, .int .u64 b3, .int .i64 b4, .int .i64 b5, .bool nn] 87 (0, 0)) :: L)) (ds := []) #[false, false, false, false, false, false, false, false, false, false, false, false, false, false] (by kernel_rfl) rfl rfl (Own.drew (HO.out)) (fun hHeld => ?_)
    have HO_ := Aside0.mk HO.out.drew
    clear HO
    have HO := HO_
    clear HO_
    generalize World.drew _ = wr at HO hHeld ⊢
    refine pure_ (i := 0) (N := some 26) (v := ?_) (a' := ?_) (up 14 1) rfl rfl (by kernel_rfl) (fun _ _ _ h => h) (Or.inl ⟨by rfl, ?_⟩) ?_ ?_
    rotate_left
    ·intro w'
     go_simp
     with_reducible rfl
    rotate_left
    ·simp only [Act.put, List.setIfInBounds_toArray, List.set_cons_zero, List.set_cons_succ, i64_w, i32_w]
     rfl
    refine pure_ (i := 1) (N := some 27) (v := ?_) (a' := ?_) (up 14 2) rfl rfl (by kernel_rfl) (fun _ _ _ h => h) (Or.inl ⟨by rfl, ?_⟩) ?_ ?_
    rotate_left
    ·intro w'
     go_simp
     with_reducible rfl
    rotate_left
    ·simp only [Act.put, List.setIfInBounds_toArray, List.set_cons_zero, List.set_cons_succ, i64_w, i32_w]
     rfl
    refine pure_ (i := 2) (N := some 28) (v := ?_) (a' := ?_) (up 14 3) rfl rfl (by kernel_rfl) (fun _ _ _ h => h) (Or.inl ⟨by rfl, ?_⟩) ?_ ?_
    rotate_left
    ·intro w'
     go_simp
     with_reducible rfl
    rotate_left
    ·simp only [Act.put, List.setIfInBounds_toArray, List.set_cons_zero, List.set_cons_succ, i64_w, i32_w]
     rfl
    refine take_ (i := 3) (N := some 29) (v := .agg #[.int .u64 a0, .int .u64 a1, .int .u64 a2, .int .u64 a3, .int .i64 a4, .int .i64 a5]) (a' := ?_) (up 14 4) rfl rfl (by kernel_rfl) (fun _ _ _ h => h) (own_yieldN (by rfl) (x := .tmp 28) rfl (by rfl) (.head) (vs := [.int .u64 a0, .int .u64 a1, .int .u64 a2, .int .u64 a3, .int .i64 a4, .int .i64 a5]) (by rfl) hun (by rfl) (by kernel_rfl) rfl) hHeld ?_ ?_
    rotate_left
    ·simp only [Act.put, List.setIfInBounds_toArray, List.set_cons_zero, List.set_cons_succ, i64_w, i32_w]
     rfl
    refine pure_ (i := 4) (N := some 30) (v := ?_) (a' := ?_) (up 14 5) rfl rfl (by kernel_rfl) (fun _ _ _ h => h) (Or.inl ⟨by rfl, ?_⟩) ?_ ?_
    rotate_left
    ·intro w'
     go_simp
     with_reducible rfl
    rotate_left
    ·simp only [Act.put, List.setIfInBounds_toArray, List.set_cons_zero, List.set_cons_succ, i64_w, i32_w]
     rfl
    refine pure_ (i := 5) (N := some 31) (v := ?_) (a' := ?_) (up 14 6) rfl rfl (by kernel_rfl) (fun _ _ _ h => h) (Or.inl ⟨by rfl, ?_⟩) ?_ ?_
    rotate_left
    ·intro w'
     go_simp
     with_reducible rfl
    rotate_left
    ·simp only [Act.put, List.setIfInBounds_toArray, List.set_cons_zero, List.set_cons_succ, i64_w, i32_w]
     rfl
    refine pure_ (i := 6) (N := some 32) (v := ?_) (a' := ?_) (up 14 7) rfl rfl (by kernel_rfl) (fun _ _ _ h => h) (Or.inl ⟨by rfl, ?_⟩) ?_ ?_
    rotate_left
    ·intro w'
     go_simp
     with_reducible rfl
    rotate_left
    ·simp only [Act.put, List.setIfInBounds_toArray, List.set_cons_zero, List.set_cons_succ, i64_w, i32_w]
     rfl
    refine take_ (i := 7) (N := some 33) (v := .agg #[.int .u64 b0, .int .u64 b1, .int .u64 b2, .int .u64 b3, .int .i64 b4, .int .i64 b5]) (a' := ?_) (up 14 8) rfl rfl (by kernel_rfl) (fun _ _ _ h => h) (own_yieldN (by rfl) (x := .tmp 32) rfl (by rfl) (.head) (vs := [.int .u64 b0, .int .u64 b1, .int .u64 b2, .int .u64 b3, .int .i64 b4, .int .i64 b5]) (by rfl) hun (by rfl) (by kernel_rfl) rfl) hHeld ?_ ?_
    rotate_left
    ·simp only [Act.put, List.setIfInBounds_toArray, List.set_cons_zero, List.set_cons_succ, i64_w, i32_w]
     rfl
    refine join_ (σ := Nat × Nat) 4 (up 14 10) (fun s_ => [(6, .pointer (some ⟨s_.1, 0, none⟩)), (7, .pointer (some ⟨s_.2, 0, none⟩))]) (fun s_ w' => Own w0 w' ((s_.2, .cells #[.int .u64 0, .int .u64 0, .int .u64 0, .int .u64 0, .int .i64 0, .int .i64 0] 36 (0, 0)) :: (s_.1, .cells #[.int .u64 0, .int .u64 0, .int .u64 0, .int .u64 0, .int .i64 0, .int .i64 0] 36 (0, 0)) :: ((gp, .cells #[.int .u64 a0, .int .u64 a1, .int .u64 a2, .int .u64 a3, .int .i64 a4, .int .i64 a5, .int .u64 b0, .int .u64 b1, .int .u64 b2, .int .u64 b3, .int .i64 b4, .int .i64 b5, .bool nn] 87 (0, 0)) :: L))) ?_ ?_
    rotate_left
    ·intro hCont
     refine two_ (i := 8) (j := 9) (Ni := some 6) (Nj := some 7) (up 14 9) #[true, true, true, true, true, true, true, true, false, true, false, false, false, false] rfl rfl rfl rfl (by kernel_rfl) (by decide) (by decide) (fun K hK => ?_) (fun K hK => ?_)
     ·skip
      refine own_box_k HO.out (by rfl) (N := 6) rfl (cs := #[.int .u64 0, .int .u64 0, .int .u64 0, .int .u64 0, .int .i64 0, .int .i64 0]) (t := 36) (by first | (go_simp; done) | (go_simp; rfl) | kernel_rfl) ?_
      intro g6 w6 hO_
      clear HO; have HO := Aside0.mk hO_; clear hO_
      refine hK.out _ _ (HO.out.drop) (fun hHeld => ?_)
      clear hK K
      refine norm_ (a' := ?_) ?_ ?_
      rotate_left
      ·show Act.put _ (some 6) _ = _
       simp only [Act.put, List.setIfInBounds_toArray, List.set_cons_zero, List.set_cons_succ, i64_w, i32_w]
       rfl
      refine one_ (i := 9) (N := some 7) (up 14 10) rfl rfl (by kernel_rfl) (by decide) (fun K hK => ?_)
      refine own_box_k HO.out (by rfl) (N := 7) rfl (cs := #[.int .u64 0, .int .u64 0, .int .u64 0, .int .u64 0, .int .i64 0, .int .i64 0]) (t := 36) (by first | (go_simp; done) | (go_simp; rfl) | kernel_rfl) ?_
      intro g7 w7 hO_
      clear HO; have HO := Aside0.mk hO_; clear hO_
      refine hK.out _ _ (HO.out.drop.drop) (fun hHeld => ?_)
      clear hK K
      refine norm_ (a' := ?_) ?_ ?_
      rotate_left
      ·show Act.put _ (some 7) _ = _
       simp only [Act.put, List.setIfInBounds_toArray, List.set_cons_zero, List.set_cons_succ, i64_w, i32_w]
       rfl
      exact norm_ (by simp only [putAll, Act.put, List.setIfInBounds_toArray, List.set_cons_zero, List.set_cons_succ]) (hCont (g6, g7) _ HO.out)
     ·skip
      refine own_box_k HO.out (by rfl) (N := 7) rfl (cs := #[.int .u64 0, .int .u64 0, .int .u64 0, .int .u64 0, .int .i64 0, .int .i64 0]) (t := 36) (by first | (go_simp; done) | (go_simp; rfl) | kernel_rfl) ?_
      intro g7 w7 hO_
      clear HO; have HO := Aside0.mk hO_; clear hO_
      refine hK.out _ _ (HO.out.drop) (fun hHeld => ?_)
      clear hK K
      refine norm_ (a' := ?_) ?_ ?_
      rotate_left
      ·show Act.put _ (some 7) _ = _
       simp only [Act.put, List.setIfInBounds_toArray, List.set_cons_zero, List.set_cons_succ, i64_w, i32_w]
       rfl
      refine one_ (i := 8) (N := some 6) (up 14 10) rfl rfl (by kernel_rfl) (by decide) (fun K hK => ?_)
      refine own_box_k HO.out (by rfl) (N := 6) rfl (cs := #[.int .u64 0, .int .u64 0, .int .u64 0, .int .u64 0, .int .i64 0, .int .i64 0]) (t := 36) (by first | (go_simp; done) | (go_simp; rfl) | kernel_rfl) ?_
      intro g6 w6 hO_
      clear HO; have HO := Aside0.mk hO_; clear hO_
      refine hK.out _ _ (HO.out.drop.drop) (fun hHeld => ?_)
      clear hK K
      refine norm_ (a' := ?_) ?_ ?_
      rotate_left
      ·show Act.put _ (some 6) _ = _
       simp only [Act.put, List.setIfInBounds_toArray, List.set_cons_zero, List.set_cons_succ, i64_w, i32_w]
       rfl
      exact norm_ (by simp only [putAll, Act.put, List.setIfInBounds_toArray, List.set_cons_zero, List.set_cons_succ]) (hCont (g6, g7) _ HO.out.twoz)
    rintro ⟨g6, g7⟩ wj hO_
    clear HO
    have HO := Aside0.mk hO_
    have hHeld := HO.out.drop.drop
    clear hO_
    refine norm_ (a' := ?_) ?_ ?_
    rotate_left
    ·simp only [putAll, Act.put, List.setIfInBounds_toArray, List.set_cons_zero, List.set_cons_succ]
     rfl
    refine one_ (i := 10) (N := none) (up 14 11) rfl rfl (by kernel_rfl) (by decide) (fun K hK => ?_)
    refine own_storeN_k HO.out (by rfl) rfl (ty := 36) (x := .tmp 6) (y := .tmp 29) (vs := #[.int .u64 a0, .int .u64 a1, .int .u64 a2, .int .u64 a3, .int .i64 a4, .int .i64 a5]) (cs' := #[.int .u64 a0, .int .u64 a1, .int .u64 a2, .int .u64 a3, .int .i64 a4, .int .i64 a5]) rfl (by rfl) (by rfl) (.tail .head) (by kernel_rfl) (by kernel_rfl) (by first | decide | (simp; done)) (by rfl) ?_
    intro wc hO_
    clear HO; have HO := Aside0.mk hO_; clear hO_
    refine hK.out _ _ (HO.out.drop.drop) (fun hHeld => ?_)
    clear hK K
    refine one_ (i := 11) (N := none) (up 14 12) rfl rfl (by kernel_rfl) (by decide) (fun K hK => ?_)
    refine own_storeN_k HO.out (by rfl) rfl (ty := 36) (x := .tmp 7) (y := .tmp 33) (vs := #[.int .u64 b0, .int .u64 b1, .int .u64 b2, .int .u64 b3, .int .i64 b4, .int .i64 b5]) (cs' := #[.int .u64 b0, .int .u64 b1, .int .u64 b2, .int .u64 b3, .int .i64 b4, .int .i64 b5]) rfl (by rfl) (by rfl) (.tail .head) (by kernel_rfl) (by kernel_rfl) (by first | decide | (simp; done)) (by rfl) ?_
    intro wc hO_
    clear HO; have HO := Aside0.mk hO_; clear hO_
    refine hK.out _ _ (HO.out.drop.drop) (fun hHeld => ?_)
    clear hK K
    refine pure_ (i := 12) (N := some 8) (v := ?_) (a' := ?_) (up 14 13) rfl rfl (by kernel_rfl) (fun _ _ _ h => h) (Or.inl ⟨by rfl, ?_⟩) ?_ ?_
    rotate_left
    ·intro w'
     go_simp
     with_reducible rfl
    rotate_left
    ·simp only [Act.put, List.setIfInBounds_toArray, List.set_cons_zero, List.set_cons_succ, i64_w, i32_w]
     rfl
    refine pure_ (i := 13) (N := some 9) (v := ?_) (a' := ?_) (up 14 14) rfl rfl (by kernel_rfl) (fun _ _ _ h => h) (Or.inl ⟨by rfl, ?_⟩) ?_ ?_
    rotate_left
    ·intro w'
     go_simp
     with_reducible rfl
    rotate_left
    ·simp only [Act.put, List.setIfInBounds_toArray, List.set_cons_zero, List.set_cons_succ, i64_w, i32_w]
     rfl
    refine done_ (by kernel_rfl) ?_
    clear hHeld
    go_wp2_with (first | ((with_reducible refine gate_dst (N := 39) rfl ?_); refine own_loadN HO.out rfl (x := .tmp 38) rfl (by rfl) (by (repeat (first | exact .head | apply Ext.tail))) (vs := [.int .u64 a0, .int .u64 a1, .int .u64 a2, .int .u64 a3, .int .i64 a4, .int .i64 a5]) (by rfl) hun (by rfl) (by kernel_rfl) (va := #[.int .u64 a0, .int .u64 a1, .int .u64 a2, .int .u64 a3, .int .i64 a4, .int .i64 a5]) rfl ?_) | ((with_reducible refine gate_callee (f := 103) rfl ?_); (with_reducible refine gate_dst (N := 41) rfl ?_); refine goesL_ (some 41) rfl rfl Try.func103 (by kernel_rfl) rfl #[.agg #[.int .u64 a0, .int .u64 a1, .int .u64 a2, .int .u64 a3, .int .i64 a4, .int .i64 a5], .int .u64 yc] rfl (by (try simp only [List.map_toArray, List.map_cons, List.map_nil]); first | done | rfl) ?_; (with_reducible refine (narrow_without.calls k a0 a1 a2 a3 a4 a5 yc u0 u1 u2 u3 u4 u5 _ _ HU2.out).mono ?_); rintro e wx ⟨rfl, hb⟩; refine ⟨_, rfl, ?_⟩; have hO_ := HO.out.below hb; clear hb; clear HO; have HO := Aside0.mk hO_; clear hO_) | ((with_reducible refine gate_store (p := 6) rfl ?_); refine own_storeN HO.out rfl (ty := 36) (x := .tmp 6) (y := .tmp 42) (vs := #[.int .u64 u0, .int .u64 u1, .int .u64 u2, .int .u64 u3, .int .i64 u4, .int .i64 u5]) (cs' := #[.int .u64 u0, .int .u64 u1, .int .u64 u2, .int .u64 u3, .int .i64 u4, .int .i64 u5]) rfl (by rfl) (by rfl) (by (repeat (first | exact .head | apply Ext.tail))) (by kernel_rfl) (by kernel_rfl) (by first | decide | (simp; done)) (by rfl) ?_; intro wc hO_; clear HO; have HO := Aside0.mk hO_; clear hO_))
    refine start_ (n := 20) (S := fun W => Own w0 W [(g6, .cells #[.int .u64 u0, .int .u64 u1, .int .u64 u2, .int .u64 u3, .int .i64 u4, .int .i64 u5] 36 (0, 0)), (g7, .cells #[.int .u64 b0, .int .u64 b1, .int .u64 b2, .int .u64 b3, .int .i64 b4, .int .i64 b5] 36 (0, 0))]) (ds := []) #[false, false, false, false, false, false, false, false, false, false, false, false, false, false, false, false, false, false, false, false] (by kernel_rfl) rfl rfl (Own.drew (HO.out.picks (.cons (by (repeat (first | exact .head | apply Ext.tail))) (.cons (by (repeat (first | exact .head | apply Ext.tail))) .nil)))) (fun hHeld => ?_)
    have HO_ := Aside0.mk HO.out.drew
    clear HO
    have HO := HO_
    clear HO_
    generalize World.drew _ = wr at HO hHeld ⊢
    refine pure_ (i := 0) (N := some 54) (v := ?_) (a' := ?_) (up 20 1) rfl rfl (by kernel_rfl) (fun _ _ _ h => h) (Or.inl ⟨by rfl, ?_⟩) ?_ ?_
    rotate_left
    ·intro w'
     go_simp
     with_reducible rfl
    rotate_left
    ·simp only [Act.put, List.setIfInBounds_toArray, List.set_cons_zero, List.set_cons_succ, i64_w, i32_w]
     rfl
    refine pure_ (i := 1) (N := some 55) (v := ?_) (a' := ?_) (up 20 2) rfl rfl (by kernel_rfl) (fun _ _ _ h => h) (Or.inl ⟨by rfl, ?_⟩) ?_ ?_
    rotate_left
    ·intro w'
     go_simp
     with_reducible rfl
    rotate_left
    ·simp only [Act.put, List.setIfInBounds_toArray, List.set_cons_zero, List.set_cons_succ, i64_w, i32_w]
     rfl
    refine pure_ (i := 2) (N := some 56) (v := ?_) (a' := ?_) (up 20 3) rfl rfl (by kernel_rfl) (fun _ _ _ h => h) (Or.inl ⟨by rfl, ?_⟩) ?_ ?_
    rotate_left
    ·intro w'
     go_simp
     with_reducible rfl
    rotate_left
    ·simp only [Act.put, List.setIfInBounds_toArray, List.set_cons_zero, List.set_cons_succ, i64_w, i32_w]
     rfl
    refine take_ (i := 3) (N := some 57) (v := .agg #[.int .u64 u0, .int .u64 u1, .int .u64 u2, .int .u64 u3, .int .i64 u4, .int .i64 u5]) (a' := ?_) (up 20 4) rfl rfl (by kernel_rfl) (fun _ _ _ h => h) (own_yieldN (by rfl) (x := .tmp 6) rfl (by rfl) (.head) (vs := [.int .u64 u0, .int .u64 u1, .int .u64 u2, .int .u64 u3, .int .i64 u4, .int .i64 u5]) (by rfl) hun (by rfl) (by kernel_rfl) rfl) hHeld ?_ ?_
    rotate_left
    ·simp only [Act.put, List.setIfInBounds_toArray, List.set_cons_zero, List.set_cons_succ, i64_w, i32_w]
     rfl
    refine take_ (i := 4) (N := some 58) (v := .agg #[.int .u64 b0, .int .u64 b1, .int .u64 b2, .int .u64 b3, .int .i64 b4, .int .i64 b5]) (a' := ?_) (up 20 5) rfl rfl (by kernel_rfl) (fun _ _ _ h => h) (own_yieldN (by rfl) (x := .tmp 7) rfl (by rfl) (.tail .head) (vs := [.int .u64 b0, .int .u64 b1, .int .u64 b2, .int .u64 b3, .int .i64 b4, .int .i64 b5]) (by rfl) hun (by rfl) (by kernel_rfl) rfl) hHeld ?_ ?_
    rotate_left
    ·simp only [Act.put, List.setIfInBounds_toArray, List.set_cons_zero, List.set_cons_succ, i64_w, i32_w]
     rfl
    refine pure_ (i := 5) (N := some 59) (v := ?_) (a' := ?_) (up 20 6) rfl rfl (by kernel_rfl) (fun _ _ _ h => h) (Or.inl ⟨by rfl, ?_⟩) ?_ ?_
    rotate_left
    ·intro w'
     go_simp
     with_reducible rfl
    rotate_left
    ·simp only [Act.put, List.setIfInBounds_toArray, List.set_cons_zero, List.set_cons_succ, i64_w, i32_w]
     rfl
    refine pure_ (i := 6) (N := some 60) (v := ?_) (a' := ?_) (up 20 7) rfl rfl (by kernel_rfl) (fun _ _ _ h => h) (Or.inl ⟨by rfl, ?_⟩) ?_ ?_
    rotate_left
    ·intro w'
     go_simp
     with_reducible rfl
    rotate_left
    ·simp only [Act.put, List.setIfInBounds_toArray, List.set_cons_zero, List.set_cons_succ, i64_w, i32_w]
     rfl
    refine pure_ (i := 7) (N := some 61) (v := ?_) (a' := ?_) (up 20 8) rfl rfl (by kernel_rfl) (fun _ _ _ h => h) (Or.inl ⟨by rfl, ?_⟩) ?_ ?_
    rotate_left
    ·intro w'
     go_simp
     with_reducible rfl
    rotate_left
    ·simp only [Act.put, List.setIfInBounds_toArray, List.set_cons_zero, List.set_cons_succ, i64_w, i32_w]
     rfl
    refine pure_ (i := 8) (N := some 62) (v := undef) (a' := ?_) (up 20 9) rfl rfl (by kernel_rfl) (fun _ _ _ h => h) (Or.inr ⟨by rfl, rfl⟩) ?_ ?_
    rotate_left
    ·simp only [Act.put, List.setIfInBounds_toArray, List.set_cons_zero, List.set_cons_succ, i64_w, i32_w]
     rfl
    refine pure_ (i := 9) (N := some 63) (v := undef) (a' := ?_) (up 20 10) rfl rfl (by kernel_rfl) (fun _ _ _ h => h) (Or.inr ⟨by rfl, rfl⟩) ?_ ?_
    rotate_left
    ·simp only [Act.put, List.setIfInBounds_toArray, List.set_cons_zero, List.set_cons_succ, i64_w, i32_w]
     rfl
    refine pure_ (i := 10) (N := some 64) (v := ?_) (a' := ?_) (up 20 11) rfl rfl (by kernel_rfl) (fun _ _ _ h => h) (Or.inl ⟨by rfl, ?_⟩) ?_ ?_
    rotate_left
    ·intro w'
     go_simp
     with_reducible rfl
    rotate_left
    ·simp only [Act.put, List.setIfInBounds_toArray, List.set_cons_zero, List.set_cons_succ, i64_w, i32_w]
     rfl
    refine pure_ (i := 11) (N := some 65) (v := ?_) (a' := ?_) (up 20 12) rfl rfl (by kernel_rfl) (fun _ _ _ h => h) (Or.inl ⟨by rfl, ?_⟩) ?_ ?_
    rotate_left
    ·intro w'
     go_simp
     with_reducible rfl
    rotate_left
    ·simp only [Act.put, List.setIfInBounds_toArray, List.set_cons_zero, List.set_cons_succ, i64_w, i32_w]
     rfl
    refine pure_ (i := 12) (N := some 66) (v := ?_) (a' := ?_) (up 20 13) rfl rfl (by kernel_rfl) (fun _ _ _ h => h) (Or.inl ⟨by rfl, ?_⟩) ?_ ?_
    rotate_left
    ·intro w'
     go_simp
     with_reducible rfl
    rotate_left
    ·simp only [Act.put, List.setIfInBounds_toArray, List.set_cons_zero, List.set_cons_succ, i64_w, i32_w]
     rfl
    refine one_ (i := 13) (N := none) (up 20 14) rfl rfl (by kernel_rfl) (by decide) (fun K hK => ?_)
    refine own_storeN_k HO.out (by rfl) rfl (ty := 36) (x := .tmp 66) (y := .tmp 57) (vs := #[.int .u64 u0, .int .u64 u1, .int .u64 u2, .int .u64 u3, .int .i64 u4, .int .i64 u5]) (cs' := #[.int .u64 u0, .int .u64 u1, .int .u64 u2, .int .u64 u3, .int .i64 u4, .int .i64 u5, .int .u64 b0, .int .u64 b1, .int .u64 b2, .int .u64 b3, .int .i64 b4, .int .i64 b5, .bool nn]) rfl (by rfl) (by rfl) (by (repeat (first | exact .head | apply Ext.tail))) (by kernel_rfl) (by kernel_rfl) (by first | decide | (simp; done)) (by rfl) ?_
    intro wc hO_
    clear HO; have HO := Aside0.mk hO_; clear hO_
    refine hK.out _ _ (HO.out.picks (.cons (by (repeat (first | exact .head | apply Ext.tail))) (.cons (by (repeat (first | exact .head | apply Ext.tail))) .nil))) (fun hHeld => ?_)
    clear hK K
    refine pure_ (i := 14) (N := some 67) (v := ?_) (a' := ?_) (up 20 15) rfl rfl (by kernel_rfl) (fun _ _ _ h => h) (Or.inl ⟨by rfl, ?_⟩) ?_ ?_
    rotate_left
    ·intro w'
     go_simp
     with_reducible rfl
    rotate_left
    ·simp only [Act.put, List.setIfInBounds_toArray, List.set_cons_zero, List.set_cons_succ, i64_w, i32_w]
     rfl
    refine pure_ (i := 15) (N := some 68) (v := ?_) (a' := ?_) (up 20 16) rfl rfl (by kernel_rfl) (fun _ _ _ h => h) (Or.inl ⟨by rfl, ?_⟩) ?_ ?_
    rotate_left
    ·intro w'
     go_simp
     with_reducible rfl
    rotate_left
    ·simp only [Act.put, List.setIfInBounds_toArray, List.set_cons_zero, List.set_cons_succ, i64_w, i32_w]
     rfl
    refine one_ (i := 16) (N := none) (up 20 17) rfl rfl (by kernel_rfl) (by decide) (fun K hK => ?_)
    refine own_storeN_k HO.out (by rfl) rfl (ty := 36) (x := .tmp 68) (y := .tmp 58) (vs := #[.int .u64 b0, .int .u64 b1, .int .u64 b2, .int .u64 b3, .int .i64 b4, .int .i64 b5]) (cs' := #[.int .u64 u0, .int .u64 u1, .int .u64 u2, .int .u64 u3, .int .i64 u4, .int .i64 u5, .int .u64 b0, .int .u64 b1, .int .u64 b2, .int .u64 b3, .int .i64 b4, .int .i64 b5, .bool nn]) rfl (by rfl) (by rfl) (by (repeat (first | exact .head | apply Ext.tail))) (by kernel_rfl) (by kernel_rfl) (by first | decide | (simp; done)) (by rfl) ?_
    intro wc hO_
    clear HO; have HO := Aside0.mk hO_; clear hO_
    refine hK.out _ _ (HO.out.picks (.cons (by (repeat (first | exact .head | apply Ext.tail))) (.cons (by (repeat (first | exact .head | apply Ext.tail))) .nil))) (fun hHeld => ?_)
    clear hK K
    refine pure_ (i := 17) (N := some 69) (v := ?_) (a' := ?_) (up 20 18) rfl rfl (by kernel_rfl) (fun _ _ _ h => h) (Or.inl ⟨by rfl, ?_⟩) ?_ ?_
    rotate_left
    ·intro w'
     go_simp
     with_reducible rfl
    rotate_left
    ·simp only [Act.put, List.setIfInBounds_toArray, List.set_cons_zero, List.set_cons_succ, i64_w, i32_w]
     rfl
    refine pure_ (i := 18) (N := some 70) (v := ?_) (a' := ?_) (up 20 19) rfl rfl (by kernel_rfl) (fun _ _ _ h => h) (Or.inl ⟨by rfl, ?_⟩) ?_ ?_
    rotate_left
    ·intro w'
     go_simp
     with_reducible rfl
    rotate_left
    ·simp only [Act.put, List.setIfInBounds_toArray, List.set_cons_zero, List.set_cons_succ, i64_w, i32_w]
     rfl
    refine one_ (i := 19) (N := none) (up 20 20) rfl rfl (by kernel_rfl) (by decide) (fun K hK => ?_)
    refine own_store_k HO.out (by rfl) rfl (ty := 4) (x := .tmp 70) (y := .tmp 64) (v := .bool true) (cs' := #[.int .u64 u0, .int .u64 u1, .int .u64 u2, .int .u64 u3, .int .i64 u4, .int .i64 u5, .int .u64 b0, .int .u64 b1, .int .u64 b2, .int .u64 b3, .int .i64 b4, .int .i64 b5, .bool true]) rfl (by rfl) (by rfl) (by (repeat (first | exact .head | apply Ext.tail))) (by kernel_rfl) (by rfl) (by first | decide | (simp; done)) (by rfl) ?_
    intro wc hO_
    clear HO; have HO := Aside0.mk hO_; clear hO_
    refine hK.out _ _ (HO.out.picks (.cons (by (repeat (first | exact .head | apply Ext.tail))) (.cons (by (repeat (first | exact .head | apply Ext.tail))) .nil))) (fun hHeld => ?_)
    clear hK K
    refine done_ (by kernel_rfl) ?_
    clear hHeld
    (first | go_end0 | refine bodyPost_ret (results_none rfl _ _ _) rfl ?_)
    exact ⟨rfl, HO.out.mid.mid⟩
   | true =>
    have HU2 : Aside0 (narrow_without.f k a0 a1 a2 a3 a4 a5 yc = some (u0, u1, u2, u3, u4, u5, false)) := ⟨(if_pos rfl).symm.trans HU.out⟩
    have HV2 : Aside0 (narrow_without.f k b0 b1 b2 b3 b4 b5 xc = some (v0, v1, v2, v3, v4, v5, vb)) := ⟨(if_pos rfl).symm.trans HV.out⟩
    go_enter Try.func94, Try.ntmps94
    go_wp2_with (first | ((with_reducible refine gate_dst (N := 14) rfl ?_); refine own_loadN HO.out rfl (x := .tmp 13) rfl (by rfl) (.head) (vs := [.int .u64 a0, .int .u64 a1, .int .u64 a2, .int .u64 a3, .int .i64 a4, .int .i64 a5]) (by rfl) hun (by rfl) (by kernel_rfl) (va := #[.int .u64 a0, .int .u64 a1, .int .u64 a2, .int .u64 a3, .int .i64 a4, .int .i64 a5]) rfl ?_) | ((with_reducible refine gate_callee (f := 25) rfl ?_); (with_reducible refine gate_dst (N := 15) rfl ?_); refine goesL_ (some 15) rfl rfl Try.func25 (by kernel_rfl) rfl #[.agg #[.int .u64 a0, .int .u64 a1, .int .u64 a2, .int .u64 a3, .int .i64 a4, .int .i64 a5]] rfl (by (try simp only [List.map_toArray, List.map_cons, List.map_nil]); first | done | rfl) ?_; (with_reducible refine (num_IsConst.calls a0 a1 a2 a3 a4 a5 xc _ _ HX.out).mono ?_); rintro e wx ⟨rfl, hb⟩; refine ⟨_, rfl, ?_⟩; have hO_ := HO.out.below hb; clear hb; clear HO; have HO := Aside0.mk hO_; clear hO_) | ((with_reducible refine gate_dst (N := 22) rfl ?_); refine own_loadN HO.out rfl (x := .tmp 21) rfl (by rfl) (.head) (vs := [.int .u64 b0, .int .u64 b1, .int .u64 b2, .int .u64 b3, .int .i64 b4, .int .i64 b5]) (by rfl) hun (by rfl) (by kernel_rfl) (va := #[.int .u64 b0, .int .u64 b1, .int .u64 b2, .int .u64 b3, .int .i64 b4, .int .i64 b5]) rfl ?_) | ((with_reducible refine gate_callee (f := 25) rfl ?_); (with_reducible refine gate_dst (N := 23) rfl ?_); refine goesL_ (some 23) rfl rfl Try.func25 (by kernel_rfl) rfl #[.agg #[.int .u64 b0, .int .u64 b1, .int .u64 b2, .int .u64 b3, .int .i64 b4, .int .i64 b5]] rfl (by (try simp only [List.map_toArray, List.map_cons, List.map_nil]); first | done | rfl) ?_; (with_reducible refine (num_IsConst.calls b0 b1 b2 b3 b4 b5 yc _ _ HY.out).mono ?_); rintro e wx ⟨rfl, hb⟩; refine ⟨_, rfl, ?_⟩; have hO_ := HO.out.below hb; clear hb; clear HO; have HO := Aside0.mk hO_; clear hO_))
    refine start_ (n := 14) (S := fun W => Own w0 W ((gp, .cells #[.int .u64 a0, .int .u64 a1, .int .u64 a2, .int .u64 a3, .int .i64 a4, .int .i64 a5, .int .u64 b0, .int .u64 b1, .int .u64 b2, .int .u64 b3, .int .i64 b4, .int .i64 b5, .bool nn] 87 (0, 0)) :: L)) (ds := []) #[false, false, false, false, false, false, false, false, false, false, false, false, false, false] (by kernel_rfl) rfl rfl (Own.drew (HO.out)) (fun hHeld => ?_)
    have HO_ := Aside0.mk HO.out.drew
    clear HO
    have HO := HO_
    clear HO_
    generalize World.drew _ = wr at HO hHeld ⊢
    refine pure_ (i := 0) (N := some 26) (v := ?_) (a' := ?_) (up 14 1) rfl rfl (by kernel_rfl) (fun _ _ _ h => h) (Or.inl ⟨by rfl, ?_⟩) ?_ ?_
    rotate_left
    ·intro w'
     go_simp
     with_reducible rfl
    rotate_left
    ·simp only [Act.put, List.setIfInBounds_toArray, List.set_cons_zero, List.set_cons_succ, i64_w, i32_w]
     rfl
    refine pure_ (i := 1) (N := some 27) (v := ?_) (a' := ?_) (up 14 2) rfl rfl (by kernel_rfl) (fun _ _ _ h => h) (Or.inl ⟨by rfl, ?_⟩) ?_ ?_
    rotate_left
    ·intro w'
     go_simp
     with_reducible rfl
    rotate_left
    ·simp only [Act.put, List.setIfInBounds_toArray, List.set_cons_zero, List.set_cons_succ, i64_w, i32_w]
     rfl
    refine pure_ (i := 2) (N := some 28) (v := ?_) (a' := ?_) (up 14 3) rfl rfl (by kernel_rfl) (fun _ _ _ h => h) (Or.inl ⟨by rfl, ?_⟩) ?_ ?_
    rotate_left
    ·intro w'
     go_simp
     with_reducible rfl
    rotate_left
    ·simp only [Act.put, List.setIfInBounds_toArray, List.set_cons_zero, List.set_cons_succ, i64_w, i32_w]
     rfl
    refine take_ (i := 3) (N := some 29) (v := .agg #[.int .u64 a0, .int .u64 a1, .int .u64 a2, .int .u64 a3, .int .i64 a4, .int .i64 a5]) (a' := ?_) (up 14 4) rfl rfl (by kernel_rfl) (fun _ _ _ h => h) (own_yieldN (by rfl) (x := .tmp 28) rfl (by rfl) (.head) (vs := [.int .u64 a0, .int .u64 a1, .int .u64 a2, .int .u64 a3, .int .i64 a4, .int .i64 a5]) (by rfl) hun (by rfl) (by kernel_rfl) rfl) hHeld ?_ ?_
    rotate_left
    ·simp only [Act.put, List.setIfInBounds_toArray, List.set_cons_zero, List.set_cons_succ, i64_w, i32_w]
     rfl
    refine pure_ (i := 4) (N := some 30) (v := ?_) (a' := ?_) (up 14 5) rfl rfl (by kernel_rfl) (fun _ _ _ h => h) (Or.inl ⟨by rfl, ?_⟩) ?_ ?_
    rotate_left
    ·intro w'
     go_simp
     with_reducible rfl
    rotate_left
    ·simp only [Act.put, List.setIfInBounds_toArray, List.set_cons_zero, List.set_cons_succ, i64_w, i32_w]
     rfl
    refine pure_ (i := 5) (N := some 31) (v := ?_) (a' := ?_) (up 14 6) rfl rfl (by kernel_rfl) (fun _ _ _ h => h) (Or.inl ⟨by rfl, ?_⟩) ?_ ?_
    rotate_left
    ·intro w'
     go_simp
     with_reducible rfl
    rotate_left
    ·simp only [Act.put, List.setIfInBounds_toArray, List.set_cons_zero, List.set_cons_succ, i64_w, i32_w]
     rfl
    refine pure_ (i := 6) (N := some 32) (v := ?_) (a' := ?_) (up 14 7) rfl rfl (by kernel_rfl) (fun _ _ _ h => h) (Or.inl ⟨by rfl, ?_⟩) ?_ ?_
    rotate_left
    ·intro w'
     go_simp
     with_reducible rfl
    rotate_left
    ·simp only [Act.put, List.setIfInBounds_toArray, List.set_cons_zero, List.set_cons_succ, i64_w, i32_w]
     rfl
    refine take_ (i := 7) (N := some 33) (v := .agg #[.int .u64 b0, .int .u64 b1, .int .u64 b2, .int .u64 b3, .int .i64 b4, .int .i64 b5]) (a' := ?_) (up 14 8) rfl rfl (by kernel_rfl) (fun _ _ _ h => h) (own_yieldN (by rfl) (x := .tmp 32) rfl (by rfl) (.head) (vs := [.int .u64 b0, .int .u64 b1, .int .u64 b2, .int .u64 b3, .int .i64 b4, .int .i64 b5]) (by rfl) hun (by rfl) (by kernel_rfl) rfl) hHeld ?_ ?_
    rotate_left
    ·simp only [Act.put, List.setIfInBounds_toArray, List.set_cons_zero, List.set_cons_succ, i64_w, i32_w]
     rfl
    refine join_ (σ := Nat × Nat) 4 (up 14 10) (fun s_ => [(6, .pointer (some ⟨s_.1, 0, none⟩)), (7, .pointer (some ⟨s_.2, 0, none⟩))]) (fun s_ w' => Own w0 w' ((s_.2, .cells #[.int .u64 0, .int .u64 0, .int .u64 0, .int .u64 0, .int .i64 0, .int .i64 0] 36 (0, 0)) :: (s_.1, .cells #[.int .u64 0, .int .u64 0, .int .u64 0, .int .u64 0, .int .i64 0, .int .i64 0] 36 (0, 0)) :: ((gp, .cells #[.int .u64 a0, .int .u64 a1, .int .u64 a2, .int .u64 a3, .int .i64 a4, .int .i64 a5, .int .u64 b0, .int .u64 b1, .int .u64 b2, .int .u64 b3, .int .i64 b4, .int .i64 b5, .bool nn] 87 (0, 0)) :: L))) ?_ ?_
    rotate_left
    ·intro hCont
     refine two_ (i := 8) (j := 9) (Ni := some 6) (Nj := some 7) (up 14 9) #[true, true, true, true, true, true, true, true, false, true, false, false, false, false] rfl rfl rfl rfl (by kernel_rfl) (by decide) (by decide) (fun K hK => ?_) (fun K hK => ?_)
     ·skip
      refine own_box_k HO.out (by rfl) (N := 6) rfl (cs := #[.int .u64 0, .int .u64 0, .int .u64 0, .int .u64 0, .int .i64 0, .int .i64 0]) (t := 36) (by first | (go_simp; done) | (go_simp; rfl) | kernel_rfl) ?_
      intro g6 w6 hO_
      clear HO; have HO := Aside0.mk hO_; clear hO_
      refine hK.out _ _ (HO.out.drop) (fun hHeld => ?_)
      clear hK K
      refine norm_ (a' := ?_) ?_ ?_
      rotate_left
      ·show Act.put _ (some 6) _ = _
       simp only [Act.put, List.setIfInBounds_toArray, List.set_cons_zero, List.set_cons_succ, i64_w, i32_w]
       rfl
      refine one_ (i := 9) (N := some 7) (up 14 10) rfl rfl (by kernel_rfl) (by decide) (fun K hK => ?_)
      refine own_box_k HO.out (by rfl) (N := 7) rfl (cs := #[.int .u64 0, .int .u64 0, .int .u64 0, .int .u64 0, .int .i64 0, .int .i64 0]) (t := 36) (by first | (go_simp; done) | (go_simp; rfl) | kernel_rfl) ?_
      intro g7 w7 hO_
      clear HO; have HO := Aside0.mk hO_; clear hO_
      refine hK.out _ _ (HO.out.drop.drop) (fun hHeld => ?_)
      clear hK K
      refine norm_ (a' := ?_) ?_ ?_
      rotate_left
      ·show Act.put _ (some 7) _ = _
       simp only [Act.put, List.setIfInBounds_toArray, List.set_cons_zero, List.set_cons_succ, i64_w, i32_w]
       rfl
      exact norm_ (by simp only [putAll, Act.put, List.setIfInBounds_toArray, List.set_cons_zero, List.set_cons_succ]) (hCont (g6, g7) _ HO.out)
     ·skip
      refine own_box_k HO.out (by rfl) (N := 7) rfl (cs := #[.int .u64 0, .int .u64 0, .int .u64 0, .int .u64 0, .int .i64 0, .int .i64 0]) (t := 36) (by first | (go_simp; done) | (go_simp; rfl) | kernel_rfl) ?_
      intro g7 w7 hO_
      clear HO; have HO := Aside0.mk hO_; clear hO_
      refine hK.out _ _ (HO.out.drop) (fun hHeld => ?_)
      clear hK K
      refine norm_ (a' := ?_) ?_ ?_
      rotate_left
      ·show Act.put _ (some 7) _ = _
       simp only [Act.put, List.setIfInBounds_toArray, List.set_cons_zero, List.set_cons_succ, i64_w, i32_w]
       rfl
      refine one_ (i := 8) (N := some 6) (up 14 10) rfl rfl (by kernel_rfl) (by decide) (fun K hK => ?_)
      refine own_box_k HO.out (by rfl) (N := 6) rfl (cs := #[.int .u64 0, .int .u64 0, .int .u64 0, .int .u64 0, .int .i64 0, .int .i64 0]) (t := 36) (by first | (go_simp; done) | (go_simp; rfl) | kernel_rfl) ?_
      intro g6 w6 hO_
      clear HO; have HO := Aside0.mk hO_; clear hO_
      refine hK.out _ _ (HO.out.drop.drop) (fun hHeld => ?_)
      clear hK K
      refine norm_ (a' := ?_) ?_ ?_
      rotate_left
      ·show Act.put _ (some 6) _ = _
       simp only [Act.put, List.setIfInBounds_toArray, List.set_cons_zero, List.set_cons_succ, i64_w, i32_w]
       rfl
      exact norm_ (by simp only [putAll, Act.put, List.setIfInBounds_toArray, List.set_cons_zero, List.set_cons_succ]) (hCont (g6, g7) _ HO.out.twoz)
    rintro ⟨g6, g7⟩ wj hO_
    clear HO
    have HO := Aside0.mk hO_
    have hHeld := HO.out.drop.drop
    clear hO_
    refine norm_ (a' := ?_) ?_ ?_
    rotate_left
    ·simp only [putAll, Act.put, List.setIfInBounds_toArray, List.set_cons_zero, List.set_cons_succ]
     rfl
    refine one_ (i := 10) (N := none) (up 14 11) rfl rfl (by kernel_rfl) (by decide) (fun K hK => ?_)
    refine own_storeN_k HO.out (by rfl) rfl (ty := 36) (x := .tmp 6) (y := .tmp 29) (vs := #[.int .u64 a0, .int .u64 a1, .int .u64 a2, .int .u64 a3, .int .i64 a4, .int .i64 a5]) (cs' := #[.int .u64 a0, .int .u64 a1, .int .u64 a2, .int .u64 a3, .int .i64 a4, .int .i64 a5]) rfl (by rfl) (by rfl) (.tail .head) (by kernel_rfl) (by kernel_rfl) (by first | decide | (simp; done)) (by rfl) ?_
    intro wc hO_
    clear HO; have HO := Aside0.mk hO_; clear hO_
    refine hK.out _ _ (HO.out.drop.drop) (fun hHeld => ?_)
    clear hK K
    refine one_ (i := 11) (N := none) (up 14 12) rfl rfl (by kernel_rfl) (by decide) (fun K hK => ?_)
    refine own_storeN_k HO.out (by rfl) rfl (ty := 36) (x := .tmp 7) (y := .tmp 33) (vs := #[.int .u64 b0, .int .u64 b1, .int .u64 b2, .int .u64 b3, .int .i64 b4, .int .i64 b5]) (cs' := #[.int .u64 b0, .int .u64 b1, .int .u64 b2, .int .u64 b3, .int .i64 b4, .int .i64 b5]) rfl (by rfl) (by rfl) (.tail .head) (by kernel_rfl) (by kernel_rfl) (by first | decide | (simp; done)) (by rfl) ?_
    intro wc hO_
    clear HO; have HO := Aside0.mk hO_; clear hO_
    refine hK.out _ _ (HO.out.drop.drop) (fun hHeld => ?_)
    clear hK K
    refine pure_ (i := 12) (N := some 8) (v := ?_) (a' := ?_) (up 14 13) rfl rfl (by kernel_rfl) (fun _ _ _ h => h) (Or.inl ⟨by rfl, ?_⟩) ?_ ?_
    rotate_left
    ·intro w'
     go_simp
     with_reducible rfl
    rotate_left
    ·simp only [Act.put, List.setIfInBounds_toArray, List.set_cons_zero, List.set_cons_succ, i64_w, i32_w]
     rfl
    refine pure_ (i := 13) (N := some 9) (v := ?_) (a' := ?_) (up 14 14) rfl rfl (by kernel_rfl) (fun _ _ _ h => h) (Or.inl ⟨by rfl, ?_⟩) ?_ ?_
    rotate_left
    ·intro w'
     go_simp
     with_reducible rfl
    rotate_left
    ·simp only [Act.put, List.setIfInBounds_toArray, List.set_cons_zero, List.set_cons_succ, i64_w, i32_w]
     rfl
    refine done_ (by kernel_rfl) ?_
    clear hHeld
    go_wp2_with (first | ((with_reducible refine gate_dst (N := 39) rfl ?_); refine own_loadN HO.out rfl (x := .tmp 38) rfl (by rfl) (by (repeat (first | exact .head | apply Ext.tail))) (vs := [.int .u64 a0, .int .u64 a1, .int .u64 a2, .int .u64 a3, .int .i64 a4, .int .i64 a5]) (by rfl) hun (by rfl) (by kernel_rfl) (va := #[.int .u64 a0, .int .u64 a1, .int .u64 a2, .int .u64 a3, .int .i64 a4, .int .i64 a5]) rfl ?_) | ((with_reducible refine gate_callee (f := 103) rfl ?_); (with_reducible refine gate_dst (N := 41) rfl ?_); refine goesL_ (some 41) rfl rfl Try.func103 (by kernel_rfl) rfl #[.agg #[.int .u64 a0, .int .u64 a1, .int .u64 a2, .int .u64 a3, .int .i64 a4, .int .i64 a5], .int .u64 yc] rfl (by (try simp only [List.map_toArray, List.map_cons, List.map_nil]); first | done | rfl) ?_; (with_reducible refine (narrow_without.calls k a0 a1 a2 a3 a4 a5 yc u0 u1 u2 u3 u4 u5 _ _ HU2.out).mono ?_); rintro e wx ⟨rfl, hb⟩; refine ⟨_, rfl, ?_⟩; have hO_ := HO.out.below hb; clear hb; clear HO; have HO := Aside0.mk hO_; clear hO_) | ((with_reducible refine gate_store (p := 6) rfl ?_); refine own_storeN HO.out rfl (ty := 36) (x := .tmp 6) (y := .tmp 42) (vs := #[.int .u64 u0, .int .u64 u1, .int .u64 u2, .int .u64 u3, .int .i64 u4, .int .i64 u5]) (cs' := #[.int .u64 u0, .int .u64 u1, .int .u64 u2, .int .u64 u3, .int .i64 u4, .int .i64 u5]) rfl (by rfl) (by rfl) (by (repeat (first | exact .head | apply Ext.tail))) (by kernel_rfl) (by kernel_rfl) (by first | decide | (simp; done)) (by rfl) ?_; intro wc hO_; clear HO; have HO := Aside0.mk hO_; clear hO_) | ((with_reducible refine gate_dst (N := 49) rfl ?_); refine own_loadN HO.out rfl (x := .tmp 48) rfl (by rfl) (by (repeat (first | exact .head | apply Ext.tail))) (vs := [.int .u64 b0, .int .u64 b1, .int .u64 b2, .int .u64 b3, .int .i64 b4, .int .i64 b5]) (by rfl) hun (by rfl) (by kernel_rfl) (va := #[.int .u64 b0, .int .u64 b1, .int .u64 b2, .int .u64 b3, .int .i64 b4, .int .i64 b5]) rfl ?_) | ((with_reducible refine gate_callee (f := 103) rfl ?_); (with_reducible refine gate_dst (N := 51) rfl ?_); refine goesL_ (some 51) rfl rfl Try.func103 (by kernel_rfl) rfl #[.agg #[.int .u64 b0, .int .u64 b1, .int .u64 b2, .int .u64 b3, .int .i64 b4, .int .i64 b5], .int .u64 xc] rfl (by (try simp only [List.map_toArray, List.map_cons, List.map_nil]); first | done | rfl) ?_; (with_reducible refine (narrow_without.calls k b0 b1 b2 b3 b4 b5 xc v0 v1 v2 v3 v4 v5 _ _ HV2.out).mono ?_); rintro e wx ⟨rfl, hb⟩; refine ⟨_, rfl, ?_⟩; have hO_ := HO.out.below hb; clear hb; clear HO; have HO := Aside0.mk hO_; clear hO_) | ((with_reducible refine gate_store (p := 7) rfl ?_); refine own_storeN HO.out rfl (ty := 36) (x := .tmp 7) (y := .tmp 52) (vs := #[.int .u64 v0, .int .u64 v1, .int .u64 v2, .int .u64 v3, .int .i64 v4, .int .i64 v5]) (cs' := #[.int .u64 v0, .int .u64 v1, .int .u64 v2, .int .u64 v3, .int .i64 v4, .int .i64 v5]) rfl (by rfl) (by rfl) (by (repeat (first | exact .head | apply Ext.tail))) (by kernel_rfl) (by kernel_rfl) (by first | decide | (simp; done)) (by rfl) ?_; intro wc hO_; clear HO; have HO := Aside0.mk hO_; clear hO_))
    refine start_ (n := 20) (S := fun W => Own w0 W [(g6, .cells #[.int .u64 u0, .int .u64 u1, .int .u64 u2, .int .u64 u3, .int .i64 u4, .int .i64 u5] 36 (0, 0)), (g7, .cells #[.int .u64 v0, .int .u64 v1, .int .u64 v2, .int .u64 v3, .int .i64 v4, .int .i64 v5] 36 (0, 0))]) (ds := []) #[false, false, false, false, false, false, false, false, false, false, false, false, false, false, false, false, false, false, false, false] (by kernel_rfl) rfl rfl (Own.drew (HO.out.picks (.cons (by (repeat (first | exact .head | apply Ext.tail))) (.cons (by (repeat (first | exact .head | apply Ext.tail))) .nil)))) (fun hHeld => ?_)
    have HO_ := Aside0.mk HO.out.drew
    clear HO
    have HO := HO_
    clear HO_
    generalize World.drew _ = wr at HO hHeld ⊢
    refine pure_ (i := 0) (N := some 54) (v := ?_) (a' := ?_) (up 20 1) rfl rfl (by kernel_rfl) (fun _ _ _ h => h) (Or.inl ⟨by rfl, ?_⟩) ?_ ?_
    rotate_left
    ·intro w'
     go_simp
     with_reducible rfl
    rotate_left
    ·simp only [Act.put, List.setIfInBounds_toArray, List.set_cons_zero, List.set_cons_succ, i64_w, i32_w]
     rfl
    refine pure_ (i := 1) (N := some 55) (v := ?_) (a' := ?_) (up 20 2) rfl rfl (by kernel_rfl) (fun _ _ _ h => h) (Or.inl ⟨by rfl, ?_⟩) ?_ ?_
    rotate_left
    ·intro w'
     go_simp
     with_reducible rfl
    rotate_left
    ·simp only [Act.put, List.setIfInBounds_toArray, List.set_cons_zero, List.set_cons_succ, i64_w, i32_w]
     rfl
    refine pure_ (i := 2) (N := some 56) (v := ?_) (a' := ?_) (up 20 3) rfl rfl (by kernel_rfl) (fun _ _ _ h => h) (Or.inl ⟨by rfl, ?_⟩) ?_ ?_
    rotate_left
    ·intro w'
     go_simp
     with_reducible rfl
    rotate_left
    ·simp only [Act.put, List.setIfInBounds_toArray, List.set_cons_zero, List.set_cons_succ, i64_w, i32_w]
     rfl
    refine take_ (i := 3) (N := some 57) (v := .agg #[.int .u64 u0, .int .u64 u1, .int .u64 u2, .int .u64 u3, .int .i64 u4, .int .i64 u5]) (a' := ?_) (up 20 4) rfl rfl (by kernel_rfl) (fun _ _ _ h => h) (own_yieldN (by rfl) (x := .tmp 6) rfl (by rfl) (.head) (vs := [.int .u64 u0, .int .u64 u1, .int .u64 u2, .int .u64 u3, .int .i64 u4, .int .i64 u5]) (by rfl) hun (by rfl) (by kernel_rfl) rfl) hHeld ?_ ?_
    rotate_left
    ·simp only [Act.put, List.setIfInBounds_toArray, List.set_cons_zero, List.set_cons_succ, i64_w, i32_w]
     rfl
    refine take_ (i := 4) (N := some 58) (v := .agg #[.int .u64 v0, .int .u64 v1, .int .u64 v2, .int .u64 v3, .int .i64 v4, .int .i64 v5]) (a' := ?_) (up 20 5) rfl rfl (by kernel_rfl) (fun _ _ _ h => h) (own_yieldN (by rfl) (x := .tmp 7) rfl (by rfl) (.tail .head) (vs := [.int .u64 v0, .int .u64 v1, .int .u64 v2, .int .u64 v3, .int .i64 v4, .int .i64 v5]) (by rfl) hun (by rfl) (by kernel_rfl) rfl) hHeld ?_ ?_
    rotate_left
    ·simp only [Act.put, List.setIfInBounds_toArray, List.set_cons_zero, List.set_cons_succ, i64_w, i32_w]
     rfl
    refine pure_ (i := 5) (N := some 59) (v := ?_) (a' := ?_) (up 20 6) rfl rfl (by kernel_rfl) (fun _ _ _ h => h) (Or.inl ⟨by rfl, ?_⟩) ?_ ?_
    rotate_left
    ·intro w'
     go_simp
     with_reducible rfl
    rotate_left
    ·simp only [Act.put, List.setIfInBounds_toArray, List.set_cons_zero, List.set_cons_succ, i64_w, i32_w]
     rfl
    refine pure_ (i := 6) (N := some 60) (v := ?_) (a' := ?_) (up 20 7) rfl rfl (by kernel_rfl) (fun _ _ _ h => h) (Or.inl ⟨by rfl, ?_⟩) ?_ ?_
    rotate_left
    ·intro w'
     go_simp
     with_reducible rfl
    rotate_left
    ·simp only [Act.put, List.setIfInBounds_toArray, List.set_cons_zero, List.set_cons_succ, i64_w, i32_w]
     rfl
    refine pure_ (i := 7) (N := some 61) (v := ?_) (a' := ?_) (up 20 8) rfl rfl (by kernel_rfl) (fun _ _ _ h => h) (Or.inl ⟨by rfl, ?_⟩) ?_ ?_
    rotate_left
    ·intro w'
     go_simp
     with_reducible rfl
    rotate_left
    ·simp only [Act.put, List.setIfInBounds_toArray, List.set_cons_zero, List.set_cons_succ, i64_w, i32_w]
     rfl
    refine pure_ (i := 8) (N := some 62) (v := undef) (a' := ?_) (up 20 9) rfl rfl (by kernel_rfl) (fun _ _ _ h => h) (Or.inr ⟨by rfl, rfl⟩) ?_ ?_
    rotate_left
    ·simp only [Act.put, List.setIfInBounds_toArray, List.set_cons_zero, List.set_cons_succ, i64_w, i32_w]
     rfl
    refine pure_ (i := 9) (N := some 63) (v := undef) (a' := ?_) (up 20 10) rfl rfl (by kernel_rfl) (fun _ _ _ h => h) (Or.inr ⟨by rfl, rfl⟩) ?_ ?_
    rotate_left
    ·simp only [Act.put, List.setIfInBounds_toArray, List.set_cons_zero, List.set_cons_succ, i64_w, i32_w]
     rfl
    refine pure_ (i := 10) (N := some 64) (v := ?_) (a' := ?_) (up 20 11) rfl rfl (by kernel_rfl) (fun _ _ _ h => h) (Or.inl ⟨by rfl, ?_⟩) ?_ ?_
    rotate_left
    ·intro w'
     go_simp
     with_reducible rfl
    rotate_left
    ·simp only [Act.put, List.setIfInBounds_toArray, List.set_cons_zero, List.set_cons_succ, i64_w, i32_w]
     rfl
    refine pure_ (i := 11) (N := some 65) (v := ?_) (a' := ?_) (up 20 12) rfl rfl (by kernel_rfl) (fun _ _ _ h => h) (Or.inl ⟨by rfl, ?_⟩) ?_ ?_
    rotate_left
    ·intro w'
     go_simp
     with_reducible rfl
    rotate_left
    ·simp only [Act.put, List.setIfInBounds_toArray, List.set_cons_zero, List.set_cons_succ, i64_w, i32_w]
     rfl
    refine pure_ (i := 12) (N := some 66) (v := ?_) (a' := ?_) (up 20 13) rfl rfl (by kernel_rfl) (fun _ _ _ h => h) (Or.inl ⟨by rfl, ?_⟩) ?_ ?_
    rotate_left
    ·intro w'
     go_simp
     with_reducible rfl
    rotate_left
    ·simp only [Act.put, List.setIfInBounds_toArray, List.set_cons_zero, List.set_cons_succ, i64_w, i32_w]
     rfl
    refine one_ (i := 13) (N := none) (up 20 14) rfl rfl (by kernel_rfl) (by decide) (fun K hK => ?_)
    refine own_storeN_k HO.out (by rfl) rfl (ty := 36) (x := .tmp 66) (y := .tmp 57) (vs := #[.int .u64 u0, .int .u64 u1, .int .u64 u2, .int .u64 u3, .int .i64 u4, .int .i64 u5]) (cs' := #[.int .u64 u0, .int .u64 u1, .int .u64 u2, .int .u64 u3, .int .i64 u4, .int .i64 u5, .int .u64 b0, .int .u64 b1, .int .u64 b2, .int .u64 b3, .int .i64 b4, .int .i64 b5, .bool nn]) rfl (by rfl) (by rfl) (by (repeat (first | exact .head | apply Ext.tail))) (by kernel_rfl) (by kernel_rfl) (by first | decide | (simp; done)) (by rfl) ?_
    intro wc hO_
    clear HO; have HO := Aside0.mk hO_; clear hO_
    refine hK.out _ _ (HO.out.picks (.cons (by (repeat (first | exact .head | apply Ext.tail))) (.cons (by (repeat (first | exact .head | apply Ext.tail))) .nil))) (fun hHeld => ?_)
    clear hK K
    refine pure_ (i := 14) (N := some 67) (v := ?_) (a' := ?_) (up 20 15) rfl rfl (by kernel_rfl) (fun _ _ _ h => h) (Or.inl ⟨by rfl, ?_⟩) ?_ ?_
    rotate_left
    ·intro w'
     go_simp
     with_reducible rfl
    rotate_left
    ·simp only [Act.put, List.setIfInBounds_toArray, List.set_cons_zero, List.set_cons_succ, i64_w, i32_w]
     rfl
    refine pure_ (i := 15) (N := some 68) (v := ?_) (a' := ?_) (up 20 16) rfl rfl (by kernel_rfl) (fun _ _ _ h => h) (Or.inl ⟨by rfl, ?_⟩) ?_ ?_
    rotate_left
    ·intro w'
     go_simp
     with_reducible rfl
    rotate_left
    ·simp only [Act.put, List.setIfInBounds_toArray, List.set_cons_zero, List.set_cons_succ, i64_w, i32_w]
     rfl
    refine one_ (i := 16) (N := none) (up 20 17) rfl rfl (by kernel_rfl) (by decide) (fun K hK => ?_)
    refine own_storeN_k HO.out (by rfl) rfl (ty := 36) (x := .tmp 68) (y := .tmp 58) (vs := #[.int .u64 v0, .int .u64 v1, .int .u64 v2, .int .u64 v3, .int .i64 v4, .int .i64 v5]) (cs' := #[.int .u64 u0, .int .u64 u1, .int .u64 u2, .int .u64 u3, .int .i64 u4, .int .i64 u5, .int .u64 v0, .int .u64 v1, .int .u64 v2, .int .u64 v3, .int .i64 v4, .int .i64 v5, .bool nn]) rfl (by rfl) (by rfl) (by (repeat (first | exact .head | apply Ext.tail))) (by kernel_rfl) (by kernel_rfl) (by first | decide | (simp; done)) (by rfl) ?_
    intro wc hO_
    clear HO; have HO := Aside0.mk hO_; clear hO_
    refine hK.out _ _ (HO.out.picks (.cons (by (repeat (first | exact .head | apply Ext.tail))) (.cons (by (repeat (first | exact .head | apply Ext.tail))) .nil))) (fun hHeld => ?_)
    clear hK K
    refine pure_ (i := 17) (N := some 69) (v := ?_) (a' := ?_) (up 20 18) rfl rfl (by kernel_rfl) (fun _ _ _ h => h) (Or.inl ⟨by rfl, ?_⟩) ?_ ?_
    rotate_left
    ·intro w'
     go_simp
     with_reducible rfl
    rotate_left
    ·simp only [Act.put, List.setIfInBounds_toArray, List.set_cons_zero, List.set_cons_succ, i64_w, i32_w]
     rfl
    refine pure_ (i := 18) (N := some 70) (v := ?_) (a' := ?_) (up 20 19) rfl rfl (by kernel_rfl) (fun _ _ _ h => h) (Or.inl ⟨by rfl, ?_⟩) ?_ ?_
    rotate_left
    ·intro w'
     go_simp
     with_reducible rfl
    rotate_left
    ·simp only [Act.put, List.setIfInBounds_toArray, List.set_cons_zero, List.set_cons_succ, i64_w, i32_w]
     rfl
    refine one_ (i := 19) (N := none) (up 20 20) rfl rfl (by kernel_rfl) (by decide) (fun K hK => ?_)
    refine own_store_k HO.out (by rfl) rfl (ty := 4) (x := .tmp 70) (y := .tmp 64) (v := .bool true) (cs' := #[.int .u64 u0, .int .u64 u1, .int .u64 u2, .int .u64 u3, .int .i64 u4, .int .i64 u5, .int .u64 v0, .int .u64 v1, .int .u64 v2, .int .u64 v3, .int .i64 v4, .int .i64 v5, .bool true]) rfl (by rfl) (by rfl) (by (repeat (first | exact .head | apply Ext.tail))) (by kernel_rfl) (by rfl) (by first | decide | (simp; done)) (by rfl) ?_
    intro wc hO_
    clear HO; have HO := Aside0.mk hO_; clear hO_
    refine hK.out _ _ (HO.out.picks (.cons (by (repeat (first | exact .head | apply Ext.tail))) (.cons (by (repeat (first | exact .head | apply Ext.tail))) .nil))) (fun hHeld => ?_)
    clear hK K
    refine done_ (by kernel_rfl) ?_
    clear hHeld
    (first | go_end0 | refine bodyPost_ret (results_none rfl _ _ _) rfl ?_)
    exact ⟨rfl, HO.out.mid.mid⟩
  | true =>
   cases xb with
   | false =>
    have e_ := Option.some.inj HV.out
    simp only [Prod.mk.injEq] at e_
    obtain ⟨rfl, rfl, rfl, rfl, rfl, rfl, rfl⟩ := e_
    clear HV
    have HU2 : Aside0 (narrow_without.f k a0 a1 a2 a3 a4 a5 yc = some (u0, u1, u2, u3, u4, u5, true)) := ⟨(if_pos rfl).symm.trans HU.out⟩
    go_enter Try.func94, Try.ntmps94
    go_wp2_with (first | ((with_reducible refine gate_dst (N := 14) rfl ?_); refine own_loadN HO.out rfl (x := .tmp 13) rfl (by rfl) (.head) (vs := [.int .u64 a0, .int .u64 a1, .int .u64 a2, .int .u64 a3, .int .i64 a4, .int .i64 a5]) (by rfl) hun (by rfl) (by kernel_rfl) (va := #[.int .u64 a0, .int .u64 a1, .int .u64 a2, .int .u64 a3, .int .i64 a4, .int .i64 a5]) rfl ?_) | ((with_reducible refine gate_callee (f := 25) rfl ?_); (with_reducible refine gate_dst (N := 15) rfl ?_); refine goesL_ (some 15) rfl rfl Try.func25 (by kernel_rfl) rfl #[.agg #[.int .u64 a0, .int .u64 a1, .int .u64 a2, .int .u64 a3, .int .i64 a4, .int .i64 a5]] rfl (by (try simp only [List.map_toArray, List.map_cons, List.map_nil]); first | done | rfl) ?_; (with_reducible refine (num_IsConst.calls a0 a1 a2 a3 a4 a5 xc _ _ HX.out).mono ?_); rintro e wx ⟨rfl, hb⟩; refine ⟨_, rfl, ?_⟩; have hO_ := HO.out.below hb; clear hb; clear HO; have HO := Aside0.mk hO_; clear hO_) | ((with_reducible refine gate_dst (N := 22) rfl ?_); refine own_loadN HO.out rfl (x := .tmp 21) rfl (by rfl) (.head) (vs := [.int .u64 b0, .int .u64 b1, .int .u64 b2, .int .u64 b3, .int .i64 b4, .int .i64 b5]) (by rfl) hun (by rfl) (by kernel_rfl) (va := #[.int .u64 b0, .int .u64 b1, .int .u64 b2, .int .u64 b3, .int .i64 b4, .int .i64 b5]) rfl ?_) | ((with_reducible refine gate_callee (f := 25) rfl ?_); (with_reducible refine gate_dst (N := 23) rfl ?_); refine goesL_ (some 23) rfl rfl Try.func25 (by kernel_rfl) rfl #[.agg #[.int .u64 b0, .int .u64 b1, .int .u64 b2, .int .u64 b3, .int .i64 b4, .int .i64 b5]] rfl (by (try simp only [List.map_toArray, List.map_cons, List.map_nil]); first | done | rfl) ?_; (with_reducible refine (num_IsConst.calls b0 b1 b2 b3 b4 b5 yc _ _ HY.out).mono ?_); rintro e wx ⟨rfl, hb⟩; refine ⟨_, rfl, ?_⟩; have hO_ := HO.out.below hb; clear hb; clear HO; have HO := Aside0.mk hO_; clear hO_))
    refine start_ (n := 14) (S := fun W => Own w0 W ((gp, .cells #[.int .u64 a0, .int .u64 a1, .int .u64 a2, .int .u64 a3, .int .i64 a4, .int .i64 a5, .int .u64 b0, .int .u64 b1, .int .u64 b2, .int .u64 b3, .int .i64 b4, .int .i64 b5, .bool nn] 87 (0, 0)) :: L)) (ds := []) #[false, false, false, false, false, false, false, false, false, false, false, false, false, false] (by kernel_rfl) rfl rfl (Own.drew (HO.out)) (fun hHeld => ?_)
    have HO_ := Aside0.mk HO.out.drew
    clear HO
    have HO := HO_
    clear HO_
    generalize World.drew _ = wr at HO hHeld ⊢
    refine pure_ (i := 0) (N := some 26) (v := ?_) (a' := ?_) (up 14 1) rfl rfl (by kernel_rfl) (fun _ _ _ h => h) (Or.inl ⟨by rfl, ?_⟩) ?_ ?_
    rotate_left
    ·intro w'
     go_simp
     with_reducible rfl
    rotate_left
    ·simp only [Act.put, List.setIfInBounds_toArray, List.set_cons_zero, List.set_cons_succ, i64_w, i32_w]
     rfl
    refine pure_ (i := 1) (N := some 27) (v := ?_) (a' := ?_) (up 14 2) rfl rfl (by kernel_rfl) (fun _ _ _ h => h) (Or.inl ⟨by rfl, ?_⟩) ?_ ?_
    rotate_left
    ·intro w'
     go_simp
     with_reducible rfl
    rotate_left
    ·simp only [Act.put, List.setIfInBounds_toArray, List.set_cons_zero, List.set_cons_succ, i64_w, i32_w]
     rfl
    refine pure_ (i := 2) (N := some 28) (v := ?_) (a' := ?_) (up 14 3) rfl rfl (by kernel_rfl) (fun _ _ _ h => h) (Or.inl ⟨by rfl, ?_⟩) ?_ ?_
    rotate_left
    ·intro w'
     go_simp
     with_reducible rfl
    rotate_left
    ·simp only [Act.put, List.setIfInBounds_toArray, List.set_cons_zero, List.set_cons_succ, i64_w, i32_w]
     rfl
    refine take_ (i := 3) (N := some 29) (v := .agg #[.int .u64 a0, .int .u64 a1, .int .u64 a2, .int .u64 a3, .int .i64 a4, .int .i64 a5]) (a' := ?_) (up 14 4) rfl rfl (by kernel_rfl) (fun _ _ _ h => h) (own_yieldN (by rfl) (x := .tmp 28) rfl (by rfl) (.head) (vs := [.int .u64 a0, .int .u64 a1, .int .u64 a2, .int .u64 a3, .int .i64 a4, .int .i64 a5]) (by rfl) hun (by rfl) (by kernel_rfl) rfl) hHeld ?_ ?_
    rotate_left
    ·simp only [Act.put, List.setIfInBounds_toArray, List.set_cons_zero, List.set_cons_succ, i64_w, i32_w]
     rfl
    refine pure_ (i := 4) (N := some 30) (v := ?_) (a' := ?_) (up 14 5) rfl rfl (by kernel_rfl) (fun _ _ _ h => h) (Or.inl ⟨by rfl, ?_⟩) ?_ ?_
    rotate_left
    ·intro w'
     go_simp
     with_reducible rfl
    rotate_left
    ·simp only [Act.put, List.setIfInBounds_toArray, List.set_cons_zero, List.set_cons_succ, i64_w, i32_w]
     rfl
    refine pure_ (i := 5) (N := some 31) (v := ?_) (a' := ?_) (up 14 6) rfl rfl (by kernel_rfl) (fun _ _ _ h => h) (Or.inl ⟨by rfl, ?_⟩) ?_ ?_
    rotate_left
    ·intro w'
     go_simp
     with_reducible rfl
    rotate_left
    ·simp only [Act.put, List.setIfInBounds_toArray, List.set_cons_zero, List.set_cons_succ, i64_w, i32_w]
     rfl
    refine pure_ (i := 6) (N := some 32) (v := ?_) (a' := ?_) (up 14 7) rfl rfl (by kernel_rfl) (fun _ _ _ h => h) (Or.inl ⟨by rfl, ?_⟩) ?_ ?_
    rotate_left
    ·intro w'
     go_simp
     with_reducible rfl
    rotate_left
    ·simp only [Act.put, List.setIfInBounds_toArray, List.set_cons_zero, List.set_cons_succ, i64_w, i32_w]
     rfl
    refine take_ (i := 7) (N := some 33) (v := .agg #[.int .u64 b0, .int .u64 b1, .int .u64 b2, .int .u64 b3, .int .i64 b4, .int .i64 b5]) (a' := ?_) (up 14 8) rfl rfl (by kernel_rfl) (fun _ _ _ h => h) (own_yieldN (by rfl) (x := .tmp 32) rfl (by rfl) (.head) (vs := [.int .u64 b0, .int .u64 b1, .int .u64 b2, .int .u64 b3, .int .i64 b4, .int .i64 b5]) (by rfl) hun (by rfl) (by kernel_rfl) rfl) hHeld ?_ ?_
    rotate_left
    ·simp only [Act.put, List.setIfInBounds_toArray, List.set_cons_zero, List.set_cons_succ, i64_w, i32_w]
     rfl
    refine join_ (σ := Nat × Nat) 4 (up 14 10) (fun s_ => [(6, .pointer (some ⟨s_.1, 0, none⟩)), (7, .pointer (some ⟨s_.2, 0, none⟩))]) (fun s_ w' => Own w0 w' ((s_.2, .cells #[.int .u64 0, .int .u64 0, .int .u64 0, .int .u64 0, .int .i64 0, .int .i64 0] 36 (0, 0)) :: (s_.1, .cells #[.int .u64 0, .int .u64 0, .int .u64 0, .int .u64 0, .int .i64 0, .int .i64 0] 36 (0, 0)) :: ((gp, .cells #[.int .u64 a0, .int .u64 a1, .int .u64 a2, .int .u64 a3, .int .i64 a4, .int .i64 a5, .int .u64 b0, .int .u64 b1, .int .u64 b2, .int .u64 b3, .int .i64 b4, .int .i64 b5, .bool nn] 87 (0, 0)) :: L))) ?_ ?_
    rotate_left
    ·intro hCont
     refine two_ (i := 8) (j := 9) (Ni := some 6) (Nj := some 7) (up 14 9) #[true, true, true, true, true, true, true, true, false, true, false, false, false, false] rfl rfl rfl rfl (by kernel_rfl) (by decide) (by decide) (fun K hK => ?_) (fun K hK => ?_)
     ·skip
      refine own_box_k HO.out (by rfl) (N := 6) rfl (cs := #[.int .u64 0, .int .u64 0, .int .u64 0, .int .u64 0, .int .i64 0, .int .i64 0]) (t := 36) (by first | (go_simp; done) | (go_simp; rfl) | kernel_rfl) ?_
      intro g6 w6 hO_
      clear HO; have HO := Aside0.mk hO_; clear hO_
      refine hK.out _ _ (HO.out.drop) (fun hHeld => ?_)
      clear hK K
      refine norm_ (a' := ?_) ?_ ?_
      rotate_left
      ·show Act.put _ (some 6) _ = _
       simp only [Act.put, List.setIfInBounds_toArray, List.set_cons_zero, List.set_cons_succ, i64_w, i32_w]
       rfl
      refine one_ (i := 9) (N := some 7) (up 14 10) rfl rfl (by kernel_rfl) (by decide) (fun K hK => ?_)
      refine own_box_k HO.out (by rfl) (N := 7) rfl (cs := #[.int .u64 0, .int .u64 0, .int .u64 0, .int .u64 0, .int .i64 0, .int .i64 0]) (t := 36) (by first | (go_simp; done) | (go_simp; rfl) | kernel_rfl) ?_
      intro g7 w7 hO_
      clear HO; have HO := Aside0.mk hO_; clear hO_
      refine hK.out _ _ (HO.out.drop.drop) (fun hHeld => ?_)
      clear hK K
      refine norm_ (a' := ?_) ?_ ?_
      rotate_left
      ·show Act.put _ (some 7) _ = _
       simp only [Act.put, List.setIfInBounds_toArray, List.set_cons_zero, List.set_cons_succ, i64_w, i32_w]
       rfl
      exact norm_ (by simp only [putAll, Act.put, List.setIfInBounds_toArray, List.set_cons_zero, List.set_cons_succ]) (hCont (g6, g7) _ HO.out)
     ·skip
      refine own_box_k HO.out (by rfl) (N := 7) rfl (cs := #[.int .u64 0, .int .u64 0, .int .u64 0, .int .u64 0, .int .i64 0, .int .i64 0]) (t := 36) (by first | (go_simp; done) | (go_simp; rfl) | kernel_rfl) ?_
      intro g7 w7 hO_
      clear HO; have HO := Aside0.mk hO_; clear hO_
      refine hK.out _ _ (HO.out.drop) (fun hHeld => ?_)
      clear hK K
      refine norm_ (a' := ?_) ?_ ?_
      rotate_left
      ·show Act.put _ (some 7) _ = _
       simp only [Act.put, List.setIfInBounds_toArray, List.set_cons_zero, List.set_cons_succ, i64_w, i32_w]
       rfl
      refine one_ (i := 8) (N := some 6) (up 14 10) rfl rfl (by kernel_rfl) (by decide) (fun K hK => ?_)
      refine own_box_k HO.out (by rfl) (N := 6) rfl (cs := #[.int .u64 0, .int .u64 0, .int .u64 0, .int .u64 0, .int .i64 0, .int .i64 0]) (t := 36) (by first | (go_simp; done) | (go_simp; rfl) | kernel_rfl) ?_
      intro g6 w6 hO_
      clear HO; have HO := Aside0.mk hO_; clear hO_
      refine hK.out _ _ (HO.out.drop.drop) (fun hHeld => ?_)
      clear hK K
      refine norm_ (a' := ?_) ?_ ?_
      rotate_left
      ·show Act.put _ (some 6) _ = _
       simp only [Act.put, List.setIfInBounds_toArray, List.set_cons_zero, List.set_cons_succ, i64_w, i32_w]
       rfl
      exact norm_ (by simp only [putAll, Act.put, List.setIfInBounds_toArray, List.set_cons_zero, List.set_cons_succ]) (hCont (g6, g7) _ HO.out.twoz)
    rintro ⟨g6, g7⟩ wj hO_
    clear HO
    have HO := Aside0.mk hO_
    have hHeld := HO.out.drop.drop
    clear hO_
    refine norm_ (a' := ?_) ?_ ?_
    rotate_left
    ·simp only [putAll, Act.put, List.setIfInBounds_toArray, List.set_cons_zero, List.set_cons_succ]
     rfl
    refine one_ (i := 10) (N := none) (up 14 11) rfl rfl (by kernel_rfl) (by decide) (fun K hK => ?_)
    refine own_storeN_k HO.out (by rfl) rfl (ty := 36) (x := .tmp 6) (y := .tmp 29) (vs := #[.int .u64 a0, .int .u64 a1, .int .u64 a2, .int .u64 a3, .int .i64 a4, .int .i64 a5]) (cs' := #[.int .u64 a0, .int .u64 a1, .int .u64 a2, .int .u64 a3, .int .i64 a4, .int .i64 a5]) rfl (by rfl) (by rfl) (.tail .head) (by kernel_rfl) (by kernel_rfl) (by first | decide | (simp; done)) (by rfl) ?_
    intro wc hO_
    clear HO; have HO := Aside0.mk hO_; clear hO_
    refine hK.out _ _ (HO.out.drop.drop) (fun hHeld => ?_)
    clear hK K
    refine one_ (i := 11) (N := none) (up 14 12) rfl rfl (by kernel_rfl) (by decide) (fun K hK => ?_)
    refine own_storeN_k HO.out (by rfl) rfl (ty := 36) (x := .tmp 7) (y := .tmp 33) (vs := #[.int .u64 b0, .int .u64 b1, .int .u64 b2, .int .u64 b3, .int .i64 b4, .int .i64 b5]) (cs' := #[.int .u64 b0, .int .u64 b1, .int .u64 b2, .int .u64 b3, .int .i64 b4, .int .i64 b5]) rfl (by rfl) (by rfl) (.tail .head) (by kernel_rfl) (by kernel_rfl) (by first | decide | (simp; done)) (by rfl) ?_
    intro wc hO_
    clear HO; have HO := Aside0.mk hO_; clear hO_
    refine hK.out _ _ (HO.out.drop.drop) (fun hHeld => ?_)
    clear hK K
    refine pure_ (i := 12) (N := some 8) (v := ?_) (a' := ?_) (up 14 13) rfl rfl (by kernel_rfl) (fun _ _ _ h => h) (Or.inl ⟨by rfl, ?_⟩) ?_ ?_
    rotate_left
    ·intro w'
     go_simp
     with_reducible rfl
    rotate_left
    ·simp only [Act.put, List.setIfInBounds_toArray, List.set_cons_zero, List.set_cons_succ, i64_w, i32_w]
     rfl
    refine pure_ (i := 13) (N := some 9) (v := ?_) (a' := ?_) (up 14 14) rfl rfl (by kernel_rfl) (fun _ _ _ h => h) (Or.inl ⟨by rfl, ?_⟩) ?_ ?_
    rotate_left
    ·intro w'
     go_simp
     with_reducible rfl
    rotate_left
    ·simp only [Act.put, List.setIfInBounds_toArray, List.set_cons_zero, List.set_cons_succ, i64_w, i32_w]
     rfl
    refine done_ (by kernel_rfl) ?_
    clear hHeld
    go_wp2_with (first | ((with_reducible refine gate_dst (N := 39) rfl ?_); refine own_loadN HO.out rfl (x := .tmp 38) rfl (by rfl) (by (repeat (first | exact .head | apply Ext.tail))) (vs := [.int .u64 a0, .int .u64 a1, .int .u64 a2, .int .u64 a3, .int .i64 a4, .int .i64 a5]) (by rfl) hun (by rfl) (by kernel_rfl) (va := #[.int .u64 a0, .int .u64 a1, .int .u64 a2, .int .u64 a3, .int .i64 a4, .int .i64 a5]) rfl ?_) | ((with_reducible refine gate_callee (f := 103) rfl ?_); (with_reducible refine gate_dst (N := 41) rfl ?_); refine goesL_ (some 41) rfl rfl Try.func103 (by kernel_rfl) rfl #[.agg #[.int .u64 a0, .int .u64 a1, .int .u64 a2, .int .u64 a3, .int .i64 a4, .int .i64 a5], .int .u64 yc] rfl (by (try simp only [List.map_toArray, List.map_cons, List.map_nil]); first | done | rfl) ?_; (with_reducible refine (narrow_without.calls k a0 a1 a2 a3 a4 a5 yc u0 u1 u2 u3 u4 u5 _ _ HU2.out).mono ?_); rintro e wx ⟨rfl, hb⟩; refine ⟨_, rfl, ?_⟩; have hO_ := HO.out.below hb; clear hb; clear HO; have HO := Aside0.mk hO_; clear hO_) | ((with_reducible refine gate_store (p := 6) rfl ?_); refine own_storeN HO.out rfl (ty := 36) (x := .tmp 6) (y := .tmp 42) (vs := #[.int .u64 u0, .int .u64 u1, .int .u64 u2, .int .u64 u3, .int .i64 u4, .int .i64 u5]) (cs' := #[.int .u64 u0, .int .u64 u1, .int .u64 u2, .int .u64 u3, .int .i64 u4, .int .i64 u5]) rfl (by rfl) (by rfl) (by (repeat (first | exact .head | apply Ext.tail))) (by kernel_rfl) (by kernel_rfl) (by first | decide | (simp; done)) (by rfl) ?_; intro wc hO_; clear HO; have HO := Aside0.mk hO_; clear hO_))
    refine start_ (n := 20) (S := fun W => Own w0 W [(g6, .cells #[.int .u64 u0, .int .u64 u1, .int .u64 u2, .int .u64 u3, .int .i64 u4, .int .i64 u5] 36 (0, 0)), (g7, .cells #[.int .u64 b0, .int .u64 b1, .int .u64 b2, .int .u64 b3, .int .i64 b4, .int .i64 b5] 36 (0, 0))]) (ds := []) #[false, false, false, false, false, false, false, false, false, false, false, false, false, false, false, false, false, false, false, false] (by kernel_rfl) rfl rfl (Own.drew (HO.out.picks (.cons (by (repeat (first | exact .head | apply Ext.tail))) (.cons (by (repeat (first | exact .head | apply Ext.tail))) .nil)))) (fun hHeld => ?_)
    have HO_ := Aside0.mk HO.out.drew
    clear HO
    have HO := HO_
    clear HO_
    generalize World.drew _ = wr at HO hHeld ⊢
    refine pure_ (i := 0) (N := some 54) (v := ?_) (a' := ?_) (up 20 1) rfl rfl (by kernel_rfl) (fun _ _ _ h => h) (Or.inl ⟨by rfl, ?_⟩) ?_ ?_
    rotate_left
    ·intro w'
     go_simp
     with_reducible rfl
    rotate_left
    ·simp only [Act.put, List.setIfInBounds_toArray, List.set_cons_zero, List.set_cons_succ, i64_w, i32_w]
     rfl
    refine pure_ (i := 1) (N := some 55) (v := ?_) (a' := ?_) (up 20 2) rfl rfl (by kernel_rfl) (fun _ _ _ h => h) (Or.inl ⟨by rfl, ?_⟩) ?_ ?_
    rotate_left
    ·intro w'
     go_simp
     with_reducible rfl
    rotate_left
    ·simp only [Act.put, List.setIfInBounds_toArray, List.set_cons_zero, List.set_cons_succ, i64_w, i32_w]
     rfl
    refine pure_ (i := 2) (N := some 56) (v := ?_) (a' := ?_) (up 20 3) rfl rfl (by kernel_rfl) (fun _ _ _ h => h) (Or.inl ⟨by rfl, ?_⟩) ?_ ?_
    rotate_left
    ·intro w'
     go_simp
     with_reducible rfl
    rotate_left
    ·simp only [Act.put, List.setIfInBounds_toArray, List.set_cons_zero, List.set_cons_succ, i64_w, i32_w]
     rfl
    refine take_ (i := 3) (N := some 57) (v := .agg #[.int .u64 u0, .int .u64 u1, .int .u64 u2, .int .u64 u3, .int .i64 u4, .int .i64 u5]) (a' := ?_) (up 20 4) rfl rfl (by kernel_rfl) (fun _ _ _ h => h) (own_yieldN (by rfl) (x := .tmp 6) rfl (by rfl) (.head) (vs := [.int .u64 u0, .int .u64 u1, .int .u64 u2, .int .u64 u3, .int .i64 u4, .int .i64 u5]) (by rfl) hun (by rfl) (by kernel_rfl) rfl) hHeld ?_ ?_
    rotate_left
    ·simp only [Act.put, List.setIfInBounds_toArray, List.set_cons_zero, List.set_cons_succ, i64_w, i32_w]
     rfl
    refine take_ (i := 4) (N := some 58) (v := .agg #[.int .u64 b0, .int .u64 b1, .int .u64 b2, .int .u64 b3, .int .i64 b4, .int .i64 b5]) (a' := ?_) (up 20 5) rfl rfl (by kernel_rfl) (fun _ _ _ h => h) (own_yieldN (by rfl) (x := .tmp 7) rfl (by rfl) (.tail .head) (vs := [.int .u64 b0, .int .u64 b1, .int .u64 b2, .int .u64 b3, .int .i64 b4, .int .i64 b5]) (by rfl) hun (by rfl) (by kernel_rfl) rfl) hHeld ?_ ?_
    rotate_left
    ·simp only [Act.put, List.setIfInBounds_toArray, List.set_cons_zero, List.set_cons_succ, i64_w, i32_w]
     rfl
    refine pure_ (i := 5) (N := some 59) (v := ?_) (a' := ?_) (up 20 6) rfl rfl (by kernel_rfl) (fun _ _ _ h => h) (Or.inl ⟨by rfl, ?_⟩) ?_ ?_
    rotate_left
    ·intro w'
     go_simp
     with_reducible rfl
    rotate_left
    ·simp only [Act.put, List.setIfInBounds_toArray, List.set_cons_zero, List.set_cons_succ, i64_w, i32_w]
     rfl
    refine pure_ (i := 6) (N := some 60) (v := ?_) (a' := ?_) (up 20 7) rfl rfl (by kernel_rfl) (fun _ _ _ h => h) (Or.inl ⟨by rfl, ?_⟩) ?_ ?_
    rotate_left
    ·intro w'
     go_simp
     with_reducible rfl
    rotate_left
    ·simp only [Act.put, List.setIfInBounds_toArray, List.set_cons_zero, List.set_cons_succ, i64_w, i32_w]
     rfl
    refine pure_ (i := 7) (N := some 61) (v := ?_) (a' := ?_) (up 20 8) rfl rfl (by kernel_rfl) (fun _ _ _ h => h) (Or.inl ⟨by rfl, ?_⟩) ?_ ?_
    rotate_left
    ·intro w'
     go_simp
     with_reducible rfl
    rotate_left
    ·simp only [Act.put, List.setIfInBounds_toArray, List.set_cons_zero, List.set_cons_succ, i64_w, i32_w]
     rfl
    refine pure_ (i := 8) (N := some 62) (v := ?_) (a' := ?_) (up 20 9) rfl rfl (by kernel_rfl) (fun _ _ _ h => h) (Or.inl ⟨by rfl, ?_⟩) ?_ ?_
    rotate_left
    ·intro w'
     go_simp
     with_reducible rfl
    rotate_left
    ·simp only [Act.put, List.setIfInBounds_toArray, List.set_cons_zero, List.set_cons_succ, i64_w, i32_w]
     rfl
    refine pure_ (i := 9) (N := some 63) (v := ?_) (a' := ?_) (up 20 10) rfl rfl (by kernel_rfl) (fun _ _ _ h => h) (Or.inl ⟨by rfl, ?_⟩) ?_ ?_
    rotate_left
    ·intro w'
     go_simp
     with_reducible rfl
    rotate_left
    ·simp only [Act.put, List.setIfInBounds_toArray, List.set_cons_zero, List.set_cons_succ, i64_w, i32_w]
     rfl
    refine pure_ (i := 10) (N := some 64) (v := ?_) (a' := ?_) (up 20 11) rfl rfl (by kernel_rfl) (fun _ _ _ h => h) (Or.inl ⟨by rfl, ?_⟩) ?_ ?_
    rotate_left
    ·intro w'
     go_simp
     with_reducible rfl
    rotate_left
    ·simp only [Act.put, List.setIfInBounds_toArray, List.set_cons_zero, List.set_cons_succ, i64_w, i32_w]
     rfl
    refine pure_ (i := 11) (N := some 65) (v := ?_) (a' := ?_) (up 20 12) rfl rfl (by kernel_rfl) (fun _ _ _ h => h) (Or.inl ⟨by rfl, ?_⟩) ?_ ?_
    rotate_left
    ·intro w'
     go_simp
     with_reducible rfl
    rotate_left
    ·simp only [Act.put, List.setIfInBounds_toArray, List.set_cons_zero, List.set_cons_succ, i64_w, i32_w]
     rfl
    refine pure_ (i := 12) (N := some 66) (v := ?_) (a' := ?_) (up 20 13) rfl rfl (by kernel_rfl) (fun _ _ _ h => h) (Or.inl ⟨by rfl, ?_⟩) ?_ ?_
    rotate_left
    ·intro w'
     go_simp
     with_reducible rfl
    rotate_left
    ·simp only [Act.put, List.setIfInBounds_toArray, List.set_cons_zero, List.set_cons_succ, i64_w, i32_w]
     rfl
    refine one_ (i := 13) (N := none) (up 20 14) rfl rfl (by kernel_rfl) (by decide) (fun K hK => ?_)
    refine own_storeN_k HO.out (by rfl) rfl (ty := 36) (x := .tmp 66) (y := .tmp 57) (vs := #[.int .u64 u0, .int .u64 u1, .int .u64 u2, .int .u64 u3, .int .i64 u4, .int .i64 u5]) (cs' := #[.int .u64 u0, .int .u64 u1, .int .u64 u2, .int .u64 u3, .int .i64 u4, .int .i64 u5, .int .u64 b0, .int .u64 b1, .int .u64 b2, .int .u64 b3, .int .i64 b4, .int .i64 b5, .bool nn]) rfl (by rfl) (by rfl) (by (repeat (first | exact .head | apply Ext.tail))) (by kernel_rfl) (by kernel_rfl) (by first | decide | (simp; done)) (by rfl) ?_
    intro wc hO_
    clear HO; have HO := Aside0.mk hO_; clear hO_
    refine hK.out _ _ (HO.out.picks (.cons (by (repeat (first | exact .head | apply Ext.tail))) (.cons (by (repeat (first | exact .head | apply Ext.tail))) .nil))) (fun hHeld => ?_)
    clear hK K
    refine pure_ (i := 14) (N := some 67) (v := ?_) (a' := ?_) (up 20 15) rfl rfl (by kernel_rfl) (fun _ _ _ h => h) (Or.inl ⟨by rfl, ?_⟩) ?_ ?_
    rotate_left
    ·intro w'
     go_simp
     with_reducible rfl
    rotate_left
    ·simp only [Act.put, List.setIfInBounds_toArray, List.set_cons_zero, List.set_cons_succ, i64_w, i32_w]
     rfl
    refine pure_ (i := 15) (N := some 68) (v := ?_) (a' := ?_) (up 20 16) rfl rfl (by kernel_rfl) (fun _ _ _ h => h) (Or.inl ⟨by rfl, ?_⟩) ?_ ?_
    rotate_left
    ·intro w'
     go_simp
     with_reducible rfl
    rotate_left
    ·simp only [Act.put, List.setIfInBounds_toArray, List.set_cons_zero, List.set_cons_succ, i64_w, i32_w]
     rfl
    refine one_ (i := 16) (N := none) (up 20 17) rfl rfl (by kernel_rfl) (by decide) (fun K hK => ?_)
    refine own_storeN_k HO.out (by rfl) rfl (ty := 36) (x := .tmp 68) (y := .tmp 58) (vs := #[.int .u64 b0, .int .u64 b1, .int .u64 b2, .int .u64 b3, .int .i64 b4, .int .i64 b5]) (cs' := #[.int .u64 u0, .int .u64 u1, .int .u64 u2, .int .u64 u3, .int .i64 u4, .int .i64 u5, .int .u64 b0, .int .u64 b1, .int .u64 b2, .int .u64 b3, .int .i64 b4, .int .i64 b5, .bool nn]) rfl (by rfl) (by rfl) (by (repeat (first | exact .head | apply Ext.tail))) (by kernel_rfl) (by kernel_rfl) (by first | decide | (simp; done)) (by rfl) ?_
    intro wc hO_
    clear HO; have HO := Aside0.mk hO_; clear hO_
    refine hK.out _ _ (HO.out.picks (.cons (by (repeat (first | exact .head | apply Ext.tail))) (.cons (by (repeat (first | exact .head | apply Ext.tail))) .nil))) (fun hHeld => ?_)
    clear hK K
    refine pure_ (i := 17) (N := some 69) (v := ?_) (a' := ?_) (up 20 18) rfl rfl (by kernel_rfl) (fun _ _ _ h => h) (Or.inl ⟨by rfl, ?_⟩) ?_ ?_
    rotate_left
    ·intro w'
     go_simp
     with_reducible rfl
    rotate_left
    ·simp only [Act.put, List.setIfInBounds_toArray, List.set_cons_zero, List.set_cons_succ, i64_w, i32_w]
     rfl
    refine pure_ (i := 18) (N := some 70) (v := ?_) (a' := ?_) (up 20 19) rfl rfl (by kernel_rfl) (fun _ _ _ h => h) (Or.inl ⟨by rfl, ?_⟩) ?_ ?_
    rotate_left
    ·intro w'
     go_simp
     with_reducible rfl
    rotate_left
    ·simp only [Act.put, List.setIfInBounds_toArray, List.set_cons_zero, List.set_cons_succ, i64_w, i32_w]
     rfl
    refine one_ (i := 19) (N := none) (up 20 20) rfl rfl (by kernel_rfl) (by decide) (fun K hK => ?_)
    refine own_store_k HO.out (by rfl) rfl (ty := 4) (x := .tmp 70) (y := .tmp 64) (v := .bool false) (cs' := #[.int .u64 u0, .int .u64 u1, .int .u64 u2, .int .u64 u3, .int .i64 u4, .int .i64 u5, .int .u64 b0, .int .u64 b1, .int .u64 b2, .int .u64 b3, .int .i64 b4, .int .i64 b5, .bool false]) rfl (by rfl) (by rfl) (by (repeat (first | exact .head | apply Ext.tail))) (by kernel_rfl) (by rfl) (by first | decide | (simp; done)) (by rfl) ?_
    intro wc hO_
    clear HO; have HO := Aside0.mk hO_; clear hO_
    refine hK.out _ _ (HO.out.picks (.cons (by (repeat (first | exact .head | apply Ext.tail))) (.cons (by (repeat (first | exact .head | apply Ext.tail))) .nil))) (fun hHeld => ?_)
    clear hK K
    refine done_ (by kernel_rfl) ?_
    clear hHeld
    (first | go_end0 | refine bodyPost_ret (results_none rfl _ _ _) rfl ?_)
    exact ⟨rfl, HO.out.mid.mid⟩
   | true =>
    have HU2 : Aside0 (narrow_without.f k a0 a1 a2 a3 a4 a5 yc = some (u0, u1, u2, u3, u4, u5, true)) := ⟨(if_pos rfl).symm.trans HU.out⟩
    have HV2 : Aside0 (narrow_without.f k b0 b1 b2 b3 b4 b5 xc = some (v0, v1, v2, v3, v4, v5, vb)) := ⟨(if_pos rfl).symm.trans HV.out⟩
    go_enter Try.func94, Try.ntmps94
    go_wp2_with (first | ((with_reducible refine gate_dst (N := 14) rfl ?_); refine own_loadN HO.out rfl (x := .tmp 13) rfl (by rfl) (.head) (vs := [.int .u64 a0, .int .u64 a1, .int .u64 a2, .int .u64 a3, .int .i64 a4, .int .i64 a5]) (by rfl) hun (by rfl) (by kernel_rfl) (va := #[.int .u64 a0, .int .u64 a1, .int .u64 a2, .int .u64 a3, .int .i64 a4, .int .i64 a5]) rfl ?_) | ((with_reducible refine gate_callee (f := 25) rfl ?_); (with_reducible refine gate_dst (N := 15) rfl ?_); refine goesL_ (some 15) rfl rfl Try.func25 (by kernel_rfl) rfl #[.agg #[.int .u64 a0, .int .u64 a1, .int .u64 a2, .int .u64 a3, .int .i64 a4, .int .i64 a5]] rfl (by (try simp only [List.map_toArray, List.map_cons, List.map_nil]); first | done | rfl) ?_; (with_reducible refine (num_IsConst.calls a0 a1 a2 a3 a4 a5 xc _ _ HX.out).mono ?_); rintro e wx ⟨rfl, hb⟩; refine ⟨_, rfl, ?_⟩; have hO_ := HO.out.below hb; clear hb; clear HO; have HO := Aside0.mk hO_; clear hO_) | ((with_reducible refine gate_dst (N := 22) rfl ?_); refine own_loadN HO.out rfl (x := .tmp 21) rfl (by rfl) (.head) (vs := [.int .u64 b0, .int .u64 b1, .int .u64 b2, .int .u64 b3, .int .i64 b4, .int .i64 b5]) (by rfl) hun (by rfl) (by kernel_rfl) (va := #[.int .u64 b0, .int .u64 b1, .int .u64 b2, .int .u64 b3, .int .i64 b4, .int .i64 b5]) rfl ?_) | ((with_reducible refine gate_callee (f := 25) rfl ?_); (with_reducible refine gate_dst (N := 23) rfl ?_); refine goesL_ (some 23) rfl rfl Try.func25 (by kernel_rfl) rfl #[.agg #[.int .u64 b0, .int .u64 b1, .int .u64 b2, .int .u64 b3, .int .i64 b4, .int .i64 b5]] rfl (by (try simp only [List.map_toArray, List.map_cons, List.map_nil]); first | done | rfl) ?_; (with_reducible refine (num_IsConst.calls b0 b1 b2 b3 b4 b5 yc _ _ HY.out).mono ?_); rintro e wx ⟨rfl, hb⟩; refine ⟨_, rfl, ?_⟩; have hO_ := HO.out.below hb; clear hb; clear HO; have HO := Aside0.mk hO_; clear hO_))
    refine start_ (n := 14) (S := fun W => Own w0 W ((gp, .cells #[.int .u64 a0, .int .u64 a1, .int .u64 a2, .int .u64 a3, .int .i64 a4, .int .i64 a5, .int .u64 b0, .int .u64 b1, .int .u64 b2, .int .u64 b3, .int .i64 b4, .int .i64 b5, .bool nn] 87 (0, 0)) :: L)) (ds := []) #[false, false, false, false, false, false, false, false, false, false, false, false, false, false] (by kernel_rfl) rfl rfl (Own.drew (HO.out)) (fun hHeld => ?_)
    have HO_ := Aside0.mk HO.out.drew
    clear HO
    have HO := HO_
    clear HO_
    generalize World.drew _ = wr at HO hHeld ⊢
    refine pure_ (i := 0) (N := some 26) (v := ?_) (a' := ?_) (up 14 1) rfl rfl (by kernel_rfl) (fun _ _ _ h => h) (Or.inl ⟨by rfl, ?_⟩) ?_ ?_
    rotate_left
    ·intro w'
     go_simp
     with_reducible rfl
    rotate_left
    ·simp only [Act.put, List.setIfInBounds_toArray, List.set_cons_zero, List.set_cons_succ, i64_w, i32_w]
     rfl
    refine pure_ (i := 1) (N := some 27) (v := ?_) (a' := ?_) (up 14 2) rfl rfl (by kernel_rfl) (fun _ _ _ h => h) (Or.inl ⟨by rfl, ?_⟩) ?_ ?_
    rotate_left
    ·intro w'
     go_simp
     with_reducible rfl
    rotate_left
    ·simp only [Act.put, List.setIfInBounds_toArray, List.set_cons_zero, List.set_cons_succ, i64_w, i32_w]
     rfl
    refine pure_ (i := 2) (N := some 28) (v := ?_) (a' := ?_) (up 14 3) rfl rfl (by kernel_rfl) (fun _ _ _ h => h) (Or.inl ⟨by rfl, ?_⟩) ?_ ?_
    rotate_left
    ·intro w'
     go_simp
     with_reducible rfl
    rotate_left
    ·simp only [Act.put, List.setIfInBounds_toArray, List.set_cons_zero, List.set_cons_succ, i64_w, i32_w]
     rfl
    refine take_ (i := 3) (N := some 29) (v := .agg #[.int .u64 a0, .int .u64 a1, .int .u64 a2, .int .u64 a3, .int .i64 a4, .int .i64 a5]) (a' := ?_) (up 14 4) rfl rfl (by kernel_rfl) (fun _ _ _ h => h) (own_yieldN (by rfl) (x := .tmp 28) rfl (by rfl) (.head) (vs := [.int .u64 a0, .int .u64 a1, .int .u64 a2, .int .u64 a3, .int .i64 a4, .int .i64 a5]) (by rfl) hun (by rfl) (by kernel_rfl) rfl) hHeld ?_ ?_
    rotate_left
    ·simp only [Act.put, List.setIfInBounds_toArray, List.set_cons_zero, List.set_cons_succ, i64_w, i32_w]
     rfl
    refine pure_ (i := 4) (N := some 30) (v := ?_) (a' := ?_) (up 14 5) rfl rfl (by kernel_rfl) (fun _ _ _ h => h) (Or.inl ⟨by rfl, ?_⟩) ?_ ?_
    rotate_left
    ·intro w'
     go_simp
     with_reducible rfl
    rotate_left
    ·simp only [Act.put, List.setIfInBounds_toArray, List.set_cons_zero, List.set_cons_succ, i64_w, i32_w]
     rfl
    refine pure_ (i := 5) (N := some 31) (v := ?_) (a' := ?_) (up 14 6) rfl rfl (by kernel_rfl) (fun _ _ _ h => h) (Or.inl ⟨by rfl, ?_⟩) ?_ ?_
    rotate_left
    ·intro w'
     go_simp
     with_reducible rfl
    rotate_left
    ·simp only [Act.put, List.setIfInBounds_toArray, List.set_cons_zero, List.set_cons_succ, i64_w, i32_w]
     rfl
    refine pure_ (i := 6) (N := some 32) (v := ?_) (a' := ?_) (up 14 7) rfl rfl (by kernel_rfl) (fun _ _ _ h => h) (Or.inl ⟨by rfl, ?_⟩) ?_ ?_
    rotate_left
    ·intro w'
     go_simp
     with_reducible rfl
    rotate_left
    ·simp only [Act.put, List.setIfInBounds_toArray, List.set_cons_zero, List.set_cons_succ, i64_w, i32_w]
     rfl
    refine take_ (i := 7) (N := some 33) (v := .agg #[.int .u64 b0, .int .u64 b1, .int .u64 b2, .int .u64 b3, .int .i64 b4, .int .i64 b5]) (a' := ?_) (up 14 8) rfl rfl (by kernel_rfl) (fun _ _ _ h => h) (own_yieldN (by rfl) (x := .tmp 32) rfl (by rfl) (.head) (vs := [.int .u64 b0, .int .u64 b1, .int .u64 b2, .int .u64 b3, .int .i64 b4, .int .i64 b5]) (by rfl) hun (by rfl) (by kernel_rfl) rfl) hHeld ?_ ?_
    rotate_left
    ·simp only [Act.put, List.setIfInBounds_toArray, List.set_cons_zero, List.set_cons_succ, i64_w, i32_w]
     rfl
    refine join_ (σ := Nat × Nat) 4 (up 14 10) (fun s_ => [(6, .pointer (some ⟨s_.1, 0, none⟩)), (7, .pointer (some ⟨s_.2, 0, none⟩))]) (fun s_ w' => Own w0 w' ((s_.2, .cells #[.int .u64 0, .int .u64 0, .int .u64 0, .int .u64 0, .int .i64 0, .int .i64 0] 36 (0, 0)) :: (s_.1, .cells #[.int .u64 0, .int .u64 0, .int .u64 0, .int .u64 0, .int .i64 0, .int .i64 0] 36 (0, 0)) :: ((gp, .cells #[.int .u64 a0, .int .u64 a1, .int .u64 a2, .int .u64 a3, .int .i64 a4, .int .i64 a5, .int .u64 b0, .int .u64 b1, .int .u64 b2, .int .u64 b3, .int .i64 b4, .int .i64 b5, .bool nn] 87 (0, 0)) :: L))) ?_ ?_
    rotate_left
    ·intro hCont
     refine two_ (i := 8) (j := 9) (Ni := some 6) (Nj := some 7) (up 14 9) #[true, true, true, true, true, true, true, true, false, true, false, false, false, false] rfl rfl rfl rfl (by kernel_rfl) (by decide) (by decide) (fun K hK => ?_) (fun K hK => ?_)
     ·skip
      refine own_box_k HO.out (by rfl) (N := 6) rfl (cs := #[.int .u64 0, .int .u64 0, .int .u64 0, .int .u64 0, .int .i64 0, .int .i64 0]) (t := 36) (by first | (go_simp; done) | (go_simp; rfl) | kernel_rfl) ?_
      intro g6 w6 hO_
      clear HO; have HO := Aside0.mk hO_; clear hO_
      refine hK.out _ _ (HO.out.drop) (fun hHeld => ?_)
      clear hK K
      refine norm_ (a' := ?_) ?_ ?_
      rotate_left
      ·show Act.put _ (some 6) _ = _
       simp only [Act.put, List.setIfInBounds_toArray, List.set_cons_zero, List.set_cons_succ, i64_w, i32_w]
       rfl
      refine one_ (i := 9) (N := some 7) (up 14 10) rfl rfl (by kernel_rfl) (by decide) (fun K hK => ?_)
      refine own_box_k HO.out (by rfl) (N := 7) rfl (cs := #[.int .u64 0, .int .u64 0, .int .u64 0, .int .u64 0, .int .i64 0, .int .i64 0]) (t := 36) (by first | (go_simp; done) | (go_simp; rfl) | kernel_rfl) ?_
      intro g7 w7 hO_
      clear HO; have HO := Aside0.mk hO_; clear hO_
      refine hK.out _ _ (HO.out.drop.drop) (fun hHeld => ?_)
      clear hK K
      refine norm_ (a' := ?_) ?_ ?_
      rotate_left
      ·show Act.put _ (some 7) _ = _
       simp only [Act.put, List.setIfInBounds_toArray, List.set_cons_zero, List.set_cons_succ, i64_w, i32_w]
       rfl
      exact norm_ (by simp only [putAll, Act.put, List.setIfInBounds_toArray, List.set_cons_zero, List.set_cons_succ]) (hCont (g6, g7) _ HO.out)
     ·skip
      refine own_box_k HO.out (by rfl) (N := 7) rfl (cs := #[.int .u64 0, .int .u64 0, .int .u64 0, .int .u64 0, .int .i64 0, .int .i64 0]) (t := 36) (by first | (go_simp; done) | (go_simp; rfl) | kernel_rfl) ?_
      intro g7 w7 hO_
      clear HO; have HO := Aside0.mk hO_; clear hO_
      refine hK.out _ _ (HO.out.drop) (fun hHeld => ?_)
      clear hK K
      refine norm_ (a' := ?_) ?_ ?_
      rotate_left
      ·show Act.put _ (some 7) _ = _
       simp only [Act.put, List.setIfInBounds_toArray, List.set_cons_zero, List.set_cons_succ, i64_w, i32_w]
       rfl
      refine one_ (i := 8) (N := some 6) (up 14 10) rfl rfl (by kernel_rfl) (by decide) (fun K hK => ?_)
      refine own_box_k HO.out (by rfl) (N := 6) rfl (cs := #[.int .u64 0, .int .u64 0, .int .u64 0, .int .u64 0, .int .i64 0, .int .i64 0]) (t := 36) (by first | (go_simp; done) | (go_simp; rfl) | kernel_rfl) ?_
      intro g6 w6 hO_
      clear HO; have HO := Aside0.mk hO_; clear hO_
      refine hK.out _ _ (HO.out.drop.drop) (fun hHeld => ?_)
      clear hK K
      refine norm_ (a' := ?_) ?_ ?_
      rotate_left
      ·show Act.put _ (some 6) _ = _
       simp only [Act.put, List.setIfInBounds_toArray, List.set_cons_zero, List.set_cons_succ, i64_w, i32_w]
       rfl
      exact norm_ (by simp only [putAll, Act.put, List.setIfInBounds_toArray, List.set_cons_zero, List.set_cons_succ]) (hCont (g6, g7) _ HO.out.twoz)
    rintro ⟨g6, g7⟩ wj hO_
    clear HO
    have HO := Aside0.mk hO_
    have hHeld := HO.out.drop.drop
    clear hO_
    refine norm_ (a' := ?_) ?_ ?_
    rotate_left
    ·simp only [putAll, Act.put, List.setIfInBounds_toArray, List.set_cons_zero, List.set_cons_succ]
     rfl
    refine one_ (i := 10) (N := none) (up 14 11) rfl rfl (by kernel_rfl) (by decide) (fun K hK => ?_)
    refine own_storeN_k HO.out (by rfl) rfl (ty := 36) (x := .tmp 6) (y := .tmp 29) (vs := #[.int .u64 a0, .int .u64 a1, .int .u64 a2, .int .u64 a3, .int .i64 a4, .int .i64 a5]) (cs' := #[.int .u64 a0, .int .u64 a1, .int .u64 a2, .int .u64 a3, .int .i64 a4, .int .i64 a5]) rfl (by rfl) (by rfl) (.tail .head) (by kernel_rfl) (by kernel_rfl) (by first | decide | (simp; done)) (by rfl) ?_
    intro wc hO_
    clear HO; have HO := Aside0.mk hO_; clear hO_
    refine hK.out _ _ (HO.out.drop.drop) (fun hHeld => ?_)
    clear hK K
    refine one_ (i := 11) (N := none) (up 14 12) rfl rfl (by kernel_rfl) (by decide) (fun K hK => ?_)
    refine own_storeN_k HO.out (by rfl) rfl (ty := 36) (x := .tmp 7) (y := .tmp 33) (vs := #[.int .u64 b0, .int .u64 b1, .int .u64 b2, .int .u64 b3, .int .i64 b4, .int .i64 b5]) (cs' := #[.int .u64 b0, .int .u64 b1, .int .u64 b2, .int .u64 b3, .int .i64 b4, .int .i64 b5]) rfl (by rfl) (by rfl) (.tail .head) (by kernel_rfl) (by kernel_rfl) (by first | decide | (simp; done)) (by rfl) ?_
    intro wc hO_
    clear HO; have HO := Aside0.mk hO_; clear hO_
    refine hK.out _ _ (HO.out.drop.drop) (fun hHeld => ?_)
    clear hK K
    refine pure_ (i := 12) (N := some 8) (v := ?_) (a' := ?_) (up 14 13) rfl rfl (by kernel_rfl) (fun _ _ _ h => h) (Or.inl ⟨by rfl, ?_⟩) ?_ ?_
    rotate_left
    ·intro w'
     go_simp
     with_reducible rfl
    rotate_left
    ·simp only [Act.put, List.setIfInBounds_toArray, List.set_cons_zero, List.set_cons_succ, i64_w, i32_w]
     rfl
    refine pure_ (i := 13) (N := some 9) (v := ?_) (a' := ?_) (up 14 14) rfl rfl (by kernel_rfl) (fun _ _ _ h => h) (Or.inl ⟨by rfl, ?_⟩) ?_ ?_
    rotate_left
    ·intro w'
     go_simp
     with_reducible rfl
    rotate_left
    ·simp only [Act.put, List.setIfInBounds_toArray, List.set_cons_zero, List.set_cons_succ, i64_w, i32_w]
     rfl
    refine done_ (by kernel_rfl) ?_
    clear hHeld
    go_wp2_with (first | ((with_reducible refine gate_dst (N := 39) rfl ?_); refine own_loadN HO.out rfl (x := .tmp 38) rfl (by rfl) (by (repeat (first | exact .head | apply Ext.tail))) (vs := [.int .u64 a0, .int .u64 a1, .int .u64 a2, .int .u64 a3, .int .i64 a4, .int .i64 a5]) (by rfl) hun (by rfl) (by kernel_rfl) (va := #[.int .u64 a0, .int .u64 a1, .int .u64 a2, .int .u64 a3, .int .i64 a4, .int .i64 a5]) rfl ?_) | ((with_reducible refine gate_callee (f := 103) rfl ?_); (with_reducible refine gate_dst (N := 41) rfl ?_); refine goesL_ (some 41) rfl rfl Try.func103 (by kernel_rfl) rfl #[.agg #[.int .u64 a0, .int .u64 a1, .int .u64 a2, .int .u64 a3, .int .i64 a4, .int .i64 a5], .int .u64 yc] rfl (by (try simp only [List.map_toArray, List.map_cons, List.map_nil]); first | done | rfl) ?_; (with_reducible refine (narrow_without.calls k a0 a1 a2 a3 a4 a5 yc u0 u1 u2 u3 u4 u5 _ _ HU2.out).mono ?_); rintro e wx ⟨rfl, hb⟩; refine ⟨_, rfl, ?_⟩; have hO_ := HO.out.below hb; clear hb; clear HO; have HO := Aside0.mk hO_; clear hO_) | ((with_reducible refine gate_store (p := 6) rfl ?_); refine own_storeN HO.out rfl (ty := 36) (x := .tmp 6) (y := .tmp 42) (vs := #[.int .u64 u0, .int .u64 u1, .int .u64 u2, .int .u64 u3, .int .i64 u4, .int .i64 u5]) (cs' := #[.int .u64 u0, .int .u64 u1, .int .u64 u2, .int .u64 u3, .int .i64 u4, .int .i64 u5]) rfl (by rfl) (by rfl) (by (repeat (first | exact .head | apply Ext.tail))) (by kernel_rfl) (by kernel_rfl) (by first | decide | (simp; done)) (by rfl) ?_; intro wc hO_; clear HO; have HO := Aside0.mk hO_; clear hO_) | ((with_reducible refine gate_dst (N := 49) rfl ?_); refine own_loadN HO.out rfl (x := .tmp 48) rfl (by rfl) (by (repeat (first | exact .head | apply Ext.tail))) (vs := [.int .u64 b0, .int .u64 b1, .int .u64 b2, .int .u64 b3, .int .i64 b4, .int .i64 b5]) (by rfl) hun (by rfl) (by kernel_rfl) (va := #[.int .u64 b0, .int .u64 b1, .int .u64 b2, .int .u64 b3, .int .i64 b4, .int .i64 b5]) rfl ?_) | ((with_reducible refine gate_callee (f := 103) rfl ?_); (with_reducible refine gate_dst (N := 51) rfl ?_); refine goesL_ (some 51) rfl rfl Try.func103 (by kernel_rfl) rfl #[.agg #[.int .u64 b0, .int .u64 b1, .int .u64 b2, .int .u64 b3, .int .i64 b4, .int .i64 b5], .int .u64 xc] rfl (by (try simp only [List.map_toArray, List.map_cons, List.map_nil]); first | done | rfl) ?_; (with_reducible refine (narrow_without.calls k b0 b1 b2 b3 b4 b5 xc v0 v1 v2 v3 v4 v5 _ _ HV2.out).mono ?_); rintro e wx ⟨rfl, hb⟩; refine ⟨_, rfl, ?_⟩; have hO_ := HO.out.below hb; clear hb; clear HO; have HO := Aside0.mk hO_; clear hO_) | ((with_reducible refine gate_store (p := 7) rfl ?_); refine own_storeN HO.out rfl (ty := 36) (x := .tmp 7) (y := .tmp 52) (vs := #[.int .u64 v0, .int .u64 v1, .int .u64 v2, .int .u64 v3, .int .i64 v4, .int .i64 v5]) (cs' := #[.int .u64 v0, .int .u64 v1, .int .u64 v2, .int .u64 v3, .int .i64 v4, .int .i64 v5]) rfl (by rfl) (by rfl) (by (repeat (first | exact .head | apply Ext.tail))) (by kernel_rfl) (by kernel_rfl) (by first | decide | (simp; done)) (by rfl) ?_; intro wc hO_; clear HO; have HO := Aside0.mk hO_; clear hO_))
    refine start_ (n := 20) (S := fun W => Own w0 W [(g6, .cells #[.int .u64 u0, .int .u64 u1, .int .u64 u2, .int .u64 u3, .int .i64 u4, .int .i64 u5] 36 (0, 0)), (g7, .cells #[.int .u64 v0, .int .u64 v1, .int .u64 v2, .int .u64 v3, .int .i64 v4, .int .i64 v5] 36 (0, 0))]) (ds := []) #[false, false, false, false, false, false, false, false, false, false, false, false, false, false, false, false, false, false, false, false] (by kernel_rfl) rfl rfl (Own.drew (HO.out.picks (.cons (by (repeat (first | exact .head | apply Ext.tail))) (.cons (by (repeat (first | exact .head | apply Ext.tail))) .nil)))) (fun hHeld => ?_)
    have HO_ := Aside0.mk HO.out.drew
    clear HO
    have HO := HO_
    clear HO_
    generalize World.drew _ = wr at HO hHeld ⊢
    refine pure_ (i := 0) (N := some 54) (v := ?_) (a' := ?_) (up 20 1) rfl rfl (by kernel_rfl) (fun _ _ _ h => h) (Or.inl ⟨by rfl, ?_⟩) ?_ ?_
    rotate_left
    ·intro w'
     go_simp
     with_reducible rfl
    rotate_left
    ·simp only [Act.put, List.setIfInBounds_toArray, List.set_cons_zero, List.set_cons_succ, i64_w, i32_w]
     rfl
    refine pure_ (i := 1) (N := some 55) (v := ?_) (a' := ?_) (up 20 2) rfl rfl (by kernel_rfl) (fun _ _ _ h => h) (Or.inl ⟨by rfl, ?_⟩) ?_ ?_
    rotate_left
    ·intro w'
     go_simp
     with_reducible rfl
    rotate_left
    ·simp only [Act.put, List.setIfInBounds_toArray, List.set_cons_zero, List.set_cons_succ, i64_w, i32_w]
     rfl
    refine pure_ (i := 2) (N := some 56) (v := ?_) (a' := ?_) (up 20 3) rfl rfl (by kernel_rfl) (fun _ _ _ h => h) (Or.inl ⟨by rfl, ?_⟩) ?_ ?_
    rotate_left
    ·intro w'
     go_simp
     with_reducible rfl
    rotate_left
    ·simp only [Act.put, List.setIfInBounds_toArray, List.set_cons_zero, List.set_cons_succ, i64_w, i32_w]
     rfl
    refine take_ (i := 3) (N := some 57) (v := .agg #[.int .u64 u0, .int .u64 u1, .int .u64 u2, .int .u64 u3, .int .i64 u4, .int .i64 u5]) (a' := ?_) (up 20 4) rfl rfl (by kernel_rfl) (fun _ _ _ h => h) (own_yieldN (by rfl) (x := .tmp 6) rfl (by rfl) (.head) (vs := [.int .u64 u0, .int .u64 u1, .int .u64 u2, .int .u64 u3, .int .i64 u4, .int .i64 u5]) (by rfl) hun (by rfl) (by kernel_rfl) rfl) hHeld ?_ ?_
    rotate_left
    ·simp only [Act.put, List.setIfInBounds_toArray, List.set_cons_zero, List.set_cons_succ, i64_w, i32_w]
     rfl
    refine take_ (i := 4) (N := some 58) (v := .agg #[.int .u64 v0, .int .u64 v1, .int .u64 v2, .int .u64 v3, .int .i64 v4, .int .i64 v5]) (a' := ?_) (up 20 5) rfl rfl (by kernel_rfl) (fun _ _ _ h => h) (own_yieldN (by rfl) (x := .tmp 7) rfl (by rfl) (.tail .head) (vs := [.int .u64 v0, .int .u64 v1, .int .u64 v2, .int .u64 v3, .int .i64 v4, .int .i64 v5]) (by rfl) hun (by rfl) (by kernel_rfl) rfl) hHeld ?_ ?_
    rotate_left
    ·simp only [Act.put, List.setIfInBounds_toArray, List.set_cons_zero, List.set_cons_succ, i64_w, i32_w]
     rfl
    refine pure_ (i := 5) (N := some 59) (v := ?_) (a' := ?_) (up 20 6) rfl rfl (by kernel_rfl) (fun _ _ _ h => h) (Or.inl ⟨by rfl, ?_⟩) ?_ ?_
    rotate_left
    ·intro w'
     go_simp
     with_reducible rfl
    rotate_left
    ·simp only [Act.put, List.setIfInBounds_toArray, List.set_cons_zero, List.set_cons_succ, i64_w, i32_w]
     rfl
    refine pure_ (i := 6) (N := some 60) (v := ?_) (a' := ?_) (up 20 7) rfl rfl (by kernel_rfl) (fun _ _ _ h => h) (Or.inl ⟨by rfl, ?_⟩) ?_ ?_
    rotate_left
    ·intro w'
     go_simp
     with_reducible rfl
    rotate_left
    ·simp only [Act.put, List.setIfInBounds_toArray, List.set_cons_zero, List.set_cons_succ, i64_w, i32_w]
     rfl
    refine pure_ (i := 7) (N := some 61) (v := ?_) (a' := ?_) (up 20 8) rfl rfl (by kernel_rfl) (fun _ _ _ h => h) (Or.inl ⟨by rfl, ?_⟩) ?_ ?_
    rotate_left
    ·intro w'
     go_simp
     with_reducible rfl
    rotate_left
    ·simp only [Act.put, List.setIfInBounds_toArray, List.set_cons_zero, List.set_cons_succ, i64_w, i32_w]
     rfl
    refine pure_ (i := 8) (N := some 62) (v := ?_) (a' := ?_) (up 20 9) rfl rfl (by kernel_rfl) (fun _ _ _ h => h) (Or.inl ⟨by rfl, ?_⟩) ?_ ?_
    rotate_left
    ·intro w'
     go_simp
     with_reducible rfl
    rotate_left
    ·simp only [Act.put, List.setIfInBounds_toArray, List.set_cons_zero, List.set_cons_succ, i64_w, i32_w]
     rfl
    refine pure_ (i := 9) (N := some 63) (v := ?_) (a' := ?_) (up 20 10) rfl rfl (by kernel_rfl) (fun _ _ _ h => h) (Or.inl ⟨by rfl, ?_⟩) ?_ ?_
    rotate_left
    ·intro w'
     go_simp
     with_reducible rfl
    rotate_left
    ·simp only [Act.put, List.setIfInBounds_toArray, List.set_cons_zero, List.set_cons_succ, i64_w, i32_w]
     rfl
    refine pure_ (i := 10) (N := some 64) (v := ?_) (a' := ?_) (up 20 11) rfl rfl (by kernel_rfl) (fun _ _ _ h => h) (Or.inl ⟨by rfl, ?_⟩) ?_ ?_
    rotate_left
    ·intro w'
     go_simp
     with_reducible rfl
    rotate_left
    ·simp only [Act.put, List.setIfInBounds_toArray, List.set_cons_zero, List.set_cons_succ, i64_w, i32_w]
     rfl
    refine pure_ (i := 11) (N := some 65) (v := ?_) (a' := ?_) (up 20 12) rfl rfl (by kernel_rfl) (fun _ _ _ h => h) (Or.inl ⟨by rfl, ?_⟩) ?_ ?_
    rotate_left
    ·intro w'
     go_simp
     with_reducible rfl
    rotate_left
    ·simp only [Act.put, List.setIfInBounds_toArray, List.set_cons_zero, List.set_cons_succ, i64_w, i32_w]
     rfl
    refine pure_ (i := 12) (N := some 66) (v := ?_) (a' := ?_) (up 20 13) rfl rfl (by kernel_rfl) (fun _ _ _ h => h) (Or.inl ⟨by rfl, ?_⟩) ?_ ?_
    rotate_left
    ·intro w'
     go_simp
     with_reducible rfl
    rotate_left
    ·simp only [Act.put, List.setIfInBounds_toArray, List.set_cons_zero, List.set_cons_succ, i64_w, i32_w]
     rfl
    refine one_ (i := 13) (N := none) (up 20 14) rfl rfl (by kernel_rfl) (by decide) (fun K hK => ?_)
    refine own_storeN_k HO.out (by rfl) rfl (ty := 36) (x := .tmp 66) (y := .tmp 57) (vs := #[.int .u64 u0, .int .u64 u1, .int .u64 u2, .int .u64 u3, .int .i64 u4, .int .i64 u5]) (cs' := #[.int .u64 u0, .int .u64 u1, .int .u64 u2, .int .u64 u3, .int .i64 u4, .int .i64 u5, .int .u64 b0, .int .u64 b1, .int .u64 b2, .int .u64 b3, .int .i64 b4, .int .i64 b5, .bool nn]) rfl (by rfl) (by rfl) (by (repeat (first | exact .head | apply Ext.tail))) (by kernel_rfl) (by kernel_rfl) (by first | decide | (simp; done)) (by rfl) ?_
    intro wc hO_
    clear HO; have HO := Aside0.mk hO_; clear hO_
    refine hK.out _ _ (HO.out.picks (.cons (by (repeat (first | exact .head | apply Ext.tail))) (.cons (by (repeat (first | exact .head | apply Ext.tail))) .nil))) (fun hHeld => ?_)
    clear hK K
    refine pure_ (i := 14) (N := some 67) (v := ?_) (a' := ?_) (up 20 15) rfl rfl (by kernel_rfl) (fun _ _ _ h => h) (Or.inl ⟨by rfl, ?_⟩) ?_ ?_
    rotate_left
    ·intro w'
     go_simp
     with_reducible rfl
    rotate_left
    ·simp only [Act.put, List.setIfInBounds_toArray, List.set_cons_zero, List.set_cons_succ, i64_w, i32_w]
     rfl
    refine pure_ (i := 15) (N := some 68) (v := ?_) (a' := ?_) (up 20 16) rfl rfl (by kernel_rfl) (fun _ _ _ h => h) (Or.inl ⟨by rfl, ?_⟩) ?_ ?_
    rotate_left
    ·intro w'
     go_simp
     with_reducible rfl
    rotate_left
    ·simp only [Act.put, List.setIfInBounds_toArray, List.set_cons_zero, List.set_cons_succ, i64_w, i32_w]
     rfl
    refine one_ (i := 16) (N := none) (up 20 17) rfl rfl (by kernel_rfl) (by decide) (fun K hK => ?_)
    refine own_storeN_k HO.out (by rfl) rfl (ty := 36) (x := .tmp 68) (y := .tmp 58) (vs := #[.int .u64 v0, .int .u64 v1, .int .u64 v2, .int .u64 v3, .int .i64 v4, .int .i64 v5]) (cs' := #[.int .u64 u0, .int .u64 u1, .int .u64 u2, .int .u64 u3, .int .i64 u4, .int .i64 u5, .int .u64 v0, .int .u64 v1, .int .u64 v2, .int .u64 v3, .int .i64 v4, .int .i64 v5, .bool nn]) rfl (by rfl) (by rfl) (by (repeat (first | exact .head | apply Ext.tail))) (by kernel_rfl) (by kernel_rfl) (by first | decide | (simp; done)) (by rfl) ?_
    intro wc hO_
    clear HO; have HO := Aside0.mk hO_; clear hO_
    refine hK.out _ _ (HO.out.picks (.cons (by (repeat (first | exact .head | apply Ext.tail))) (.cons (by (repeat (first | exact .head | apply Ext.tail))) .nil))) (fun hHeld => ?_)
    clear hK K
    refine pure_ (i := 17) (N := some 69) (v := ?_) (a' := ?_) (up 20 18) rfl rfl (by kernel_rfl) (fun _ _ _ h => h) (Or.inl ⟨by rfl, ?_⟩) ?_ ?_
    rotate_left
    ·intro w'
     go_simp
     with_reducible rfl
    rotate_left
    ·simp only [Act.put, List.setIfInBounds_toArray, List.set_cons_zero, List.set_cons_succ, i64_w, i32_w]
     rfl
    refine pure_ (i := 18) (N := some 70) (v := ?_) (a' := ?_) (up 20 19) rfl rfl (by kernel_rfl) (fun _ _ _ h => h) (Or.inl ⟨by rfl, ?_⟩) ?_ ?_
    rotate_left
    ·intro w'
     go_simp
     with_reducible rfl
    rotate_left
    ·simp only [Act.put, List.setIfInBounds_toArray, List.set_cons_zero, List.set_cons_succ, i64_w, i32_w]
     rfl
    refine one_ (i := 19) (N := none) (up 20 20) rfl rfl (by kernel_rfl) (by decide) (fun K hK => ?_)
    refine own_store_k HO.out (by rfl) rfl (ty := 4) (x := .tmp 70) (y := .tmp 64) (v := .bool (!vb)) (cs' := #[.int .u64 u0, .int .u64 u1, .int .u64 u2, .int .u64 u3, .int .i64 u4, .int .i64 u5, .int .u64 v0, .int .u64 v1, .int .u64 v2, .int .u64 v3, .int .i64 v4, .int .i64 v5, .bool (!vb)]) rfl (by rfl) (by rfl) (by (repeat (first | exact .head | apply Ext.tail))) (by kernel_rfl) (by rfl) (by first | decide | (simp; done)) (by rfl) ?_
    intro wc hO_
    clear HO; have HO := Aside0.mk hO_; clear hO_
    refine hK.out _ _ (HO.out.picks (.cons (by (repeat (first | exact .head | apply Ext.tail))) (.cons (by (repeat (first | exact .head | apply Ext.tail))) .nil))) (fun hHeld => ?_)
    clear hK K
    refine done_ (by kernel_rfl) ?_
    clear hHeld
    (first | go_end0 | refine bodyPost_ret (results_none rfl _ _ _) rfl ?_)
    exact ⟨rfl, HO.out.mid.mid⟩


end Go.Proofs.Ytdojdjafleaedaa.PNarrowSound
