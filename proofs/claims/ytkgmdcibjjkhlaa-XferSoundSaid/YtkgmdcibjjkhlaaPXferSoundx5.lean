/- Functions of the program that some laws reach, as Lean functions, and proofs that the program's calls come to what they say: written by a program, for the texts that import it; each theorem bears its own conditions. -/
import Derived.Test.YtkgmdcibjjkhlaaPXferSoundx0
import Derived.Test.YtkgmdcibjjkhlaaPXferSoundx1
import Derived.Test.YtkgmdcibjjkhlaaPXferSoundx3
import Derived.Test.YtkgmdcibjjkhlaaPXferSoundx4
namespace Go.Proofs.Ytkgmdcibjjkhlaa.PXferSound
open Go.RowKit Go.Proofs.YtkgmdcibjjkhlaaW.PrintWords Go.Proofs.YtkgmdcibjjkhlaaW.PrintLast Go.Proofs.YtkgmdcibjjkhlaaW.PrintMore
attribute [local go_sem] max2_int min2_int max_two min_two max_three min_three max_four min_four   -- for this text's walks alone
set_option linter.unusedVariables false
set_option linter.unusedSimpArgs false

/-! ### xfer_row_add: function 27 -/
open Go.Proofs.Hp Go.Proofs.Ev
structure XfP where
 (a0 a1 a2 a3 a4 a5 b0 b1 b2 b3 b4 b5 c : Int)
 (on : Bool)
 (tu n0 n1 n2 n3 n4 n5 : Int)
def XfP.obj (p : XfP) : Obj := .cells #[.int .u64 p.a0, .int .u64 p.a1, .int .u64 p.a2, .int .u64 p.a3, .int .i64 p.a4, .int .i64 p.a5, .int .u64 p.b0, .int .u64 p.b1, .int .u64 p.b2, .int .u64 p.b3, .int .i64 p.b4, .int .i64 p.b5, .int .u64 p.c, .bool p.on, .int .u64 p.tu, .int .u64 p.n0, .int .u64 p.n1, .int .u64 p.n2, .int .u64 p.n3, .int .i64 p.n4, .int .i64 p.n5] 46 (0, 0)
/-- What a row's method does. -/
def XfOk (f : FuncId) (m : XfP → Option XfP) : Prop := ∀ (p q : XfP) (gp : Nat) (w0 w : World) (L : Hl), m p = some q → Own w0 w ((gp, p.obj) :: L) → Calls Try.prog f #[.pointer (some ⟨gp, 0, none⟩)] w fun e w' => e = .returned (.tuple #[]) ∧ Own w0 w' ((gp, q.obj) :: L)
theorem XfOk.go {f : FuncId} {m : XfP → Option XfP} (h : XfOk f m) (p q : XfP) (gp : Nat) (w0 w : World) (L : Hl) (hm : m p = some q) (hO : Own w0 w ((gp, p.obj) :: L)) : Calls Try.prog f #[.pointer (some ⟨gp, 0, none⟩)] w fun e w' => e = .returned (.tuple #[]) ∧ Own w0 w' ((gp, q.obj) :: L) := h p q gp w0 w L hm hO
def xf_unsigned_f (lo hi : Int) (p : XfP) : XfP := match p with
 | ⟨a0, a1, a2, a3, a4, a5, b0, b1, b2, b3, b4, b5, c, on, tu, n0, n1, n2, n3, n4, n5⟩ => ⟨a0, a1, a2, a3, a4, a5, b0, b1, b2, b3, b4, b5, c, on, tu, n0, n1, lo, hi, n4, n5⟩
set_option maxHeartbeats 8000000 in
set_option maxRecDepth 100000 in
theorem xf_unsigned (lo hi : Int) (p : XfP) (gp : Nat) (w0 w : World) (L : Hl) (hO : Own w0 w ((gp, p.obj) :: L)) : Calls Try.prog 61 #[.pointer (some ⟨gp, 0, none⟩), .int .u64 lo, .int .u64 hi] w fun e w' => e = .returned (.tuple #[]) ∧ Own w0 w' ((gp, (xf_unsigned_f lo hi p).obj) :: L) := by
 obtain ⟨a0, a1, a2, a3, a4, a5, b0, b1, b2, b3, b4, b5, c, on, tu, n0, n1, n2, n3, n4, n5⟩ := p
 have HO : Aside0 (Own w0 w ((gp, .cells #[.int .u64 a0, .int .u64 a1, .int .u64 a2, .int .u64 a3, .int .i64 a4, .int .i64 a5, .int .u64 b0, .int .u64 b1, .int .u64 b2, .int .u64 b3, .int .i64 b4, .int .i64 b5, .int .u64 c, .bool on, .int .u64 tu, .int .u64 n0, .int .u64 n1, .int .u64 n2, .int .u64 n3, .int .i64 n4, .int .i64 n5] 46 (0, 0)) :: L)) := ⟨hO⟩
 clear hO
 have hup := Try.underlying46
 have hun := Try.underlying26
 have hut := Try.underlying24
 have huu := Try.underlying22
 have hui := Try.underlying2
 have hub := Try.underlying4
 go_enter Try.func61, Try.ntmps61
 go_wp2_with (first | ((with_reducible refine gate_store (p := 12) rfl ?_); refine own_store HO.out rfl (ty := 22) (x := .tmp 12) (y := .tmp 8) (v := .int .u64 lo) (cs' := #[.int .u64 a0, .int .u64 a1, .int .u64 a2, .int .u64 a3, .int .i64 a4, .int .i64 a5, .int .u64 b0, .int .u64 b1, .int .u64 b2, .int .u64 b3, .int .i64 b4, .int .i64 b5, .int .u64 c, .bool on, .int .u64 tu, .int .u64 n0, .int .u64 n1, .int .u64 lo, .int .u64 n3, .int .i64 n4, .int .i64 n5]) rfl (by rfl) (by rfl) (by (repeat (first | exact .head | apply Ext.tail))) (by kernel_rfl) (by rfl) (by first | decide | (simp; done)) (by rfl) ?_; intro wc hO_; clear HO; have HO := Aside0.mk hO_; clear hO_) | ((with_reducible refine gate_store (p := 15) rfl ?_); refine own_store HO.out rfl (ty := 22) (x := .tmp 15) (y := .tmp 9) (v := .int .u64 hi) (cs' := #[.int .u64 a0, .int .u64 a1, .int .u64 a2, .int .u64 a3, .int .i64 a4, .int .i64 a5, .int .u64 b0, .int .u64 b1, .int .u64 b2, .int .u64 b3, .int .i64 b4, .int .i64 b5, .int .u64 c, .bool on, .int .u64 tu, .int .u64 n0, .int .u64 n1, .int .u64 lo, .int .u64 hi, .int .i64 n4, .int .i64 n5]) rfl (by rfl) (by rfl) (by (repeat (first | exact .head | apply Ext.tail))) (by kernel_rfl) (by rfl) (by first | decide | (simp; done)) (by rfl) ?_; intro wc hO_; clear HO; have HO := Aside0.mk hO_; clear hO_))
 (first | go_end0 | refine bodyPost_ret (results_none rfl _ _ _) rfl ?_)
 exact ⟨rfl, HO.out⟩
def xf_signed_f (lo hi : Int) (p : XfP) : XfP := match p with
 | ⟨a0, a1, a2, a3, a4, a5, b0, b1, b2, b3, b4, b5, c, on, tu, n0, n1, n2, n3, n4, n5⟩ => ⟨a0, a1, a2, a3, a4, a5, b0, b1, b2, b3, b4, b5, c, on, tu, n0, n1, n2, n3, lo, hi⟩
set_option maxHeartbeats 8000000 in
set_option maxRecDepth 100000 in
theorem xf_signed (lo hi : Int) (p : XfP) (gp : Nat) (w0 w : World) (L : Hl) (hO : Own w0 w ((gp, p.obj) :: L)) : Calls Try.prog 63 #[.pointer (some ⟨gp, 0, none⟩), .int .i64 lo, .int .i64 hi] w fun e w' => e = .returned (.tuple #[]) ∧ Own w0 w' ((gp, (xf_signed_f lo hi p).obj) :: L) := by
 obtain ⟨a0, a1, a2, a3, a4, a5, b0, b1, b2, b3, b4, b5, c, on, tu, n0, n1, n2, n3, n4, n5⟩ := p
 have HO : Aside0 (Own w0 w ((gp, .cells #[.int .u64 a0, .int .u64 a1, .int .u64 a2, .int .u64 a3, .int .i64 a4, .int .i64 a5, .int .u64 b0, .int .u64 b1, .int .u64 b2, .int .u64 b3, .int .i64 b4, .int .i64 b5, .int .u64 c, .bool on, .int .u64 tu, .int .u64 n0, .int .u64 n1, .int .u64 n2, .int .u64 n3, .int .i64 n4, .int .i64 n5] 46 (0, 0)) :: L)) := ⟨hO⟩
 clear hO
 have hup := Try.underlying46
 have hun := Try.underlying26
 have hut := Try.underlying24
 have huu := Try.underlying22
 have hui := Try.underlying2
 have hub := Try.underlying4
 go_enter Try.func63, Try.ntmps63
 go_wp2_with (first | ((with_reducible refine gate_store (p := 12) rfl ?_); refine own_store HO.out rfl (ty := 2) (x := .tmp 12) (y := .tmp 8) (v := .int .i64 lo) (cs' := #[.int .u64 a0, .int .u64 a1, .int .u64 a2, .int .u64 a3, .int .i64 a4, .int .i64 a5, .int .u64 b0, .int .u64 b1, .int .u64 b2, .int .u64 b3, .int .i64 b4, .int .i64 b5, .int .u64 c, .bool on, .int .u64 tu, .int .u64 n0, .int .u64 n1, .int .u64 n2, .int .u64 n3, .int .i64 lo, .int .i64 n5]) rfl (by rfl) (by rfl) (by (repeat (first | exact .head | apply Ext.tail))) (by kernel_rfl) (by rfl) (by first | decide | (simp; done)) (by rfl) ?_; intro wc hO_; clear HO; have HO := Aside0.mk hO_; clear hO_) | ((with_reducible refine gate_store (p := 15) rfl ?_); refine own_store HO.out rfl (ty := 2) (x := .tmp 15) (y := .tmp 9) (v := .int .i64 hi) (cs' := #[.int .u64 a0, .int .u64 a1, .int .u64 a2, .int .u64 a3, .int .i64 a4, .int .i64 a5, .int .u64 b0, .int .u64 b1, .int .u64 b2, .int .u64 b3, .int .i64 b4, .int .i64 b5, .int .u64 c, .bool on, .int .u64 tu, .int .u64 n0, .int .u64 n1, .int .u64 n2, .int .u64 n3, .int .i64 lo, .int .i64 hi]) rfl (by rfl) (by rfl) (by (repeat (first | exact .head | apply Ext.tail))) (by kernel_rfl) (by rfl) (by first | decide | (simp; done)) (by rfl) ?_; intro wc hO_; clear HO; have HO := Aside0.mk hO_; clear hO_))
 (first | go_end0 | refine bodyPost_ret (results_none rfl _ _ _) rfl ?_)
 exact ⟨rfl, HO.out⟩
def xf_add (p : XfP) : Option XfP := match p with
 | ⟨a0, a1, a2, a3, a4, a5, b0, b1, b2, b3, b4, b5, c, on, tu, n0, n1, n2, n3, n4, n5⟩ => (tnum_Add.f a0 a1 b0 b1).bind fun t => (xfer_sum.f a4 b4).bind fun l => (xfer_sum.f a5 b5).bind fun m => some ⟨a0, a1, a2, a3, a4, a5, b0, b1, b2, b3, b4, b5, c, on, tu, t.1, t.2, if (decide (IntKind.u64.wrap (a3 + b3) ≥ a3)) = true then IntKind.u64.wrap (a2 + b2) else n2, if (decide (IntKind.u64.wrap (a3 + b3) ≥ a3)) = true then IntKind.u64.wrap (a3 + b3) else n3, if (l.2 && m.2) = true then l.1 else n4, if (l.2 && m.2) = true then m.1 else n5⟩
set_option maxHeartbeats 8000000 in
set_option maxRecDepth 100000 in
theorem xf_add_ok : XfOk 27 xf_add := by
 intro p q gp w0 w L h hO
 obtain ⟨a0, a1, a2, a3, a4, a5, b0, b1, b2, b3, b4, b5, c, on, tu, n0, n1, n2, n3, n4, n5⟩ := p
 have HO : Aside0 (Own w0 w ((gp, .cells #[.int .u64 a0, .int .u64 a1, .int .u64 a2, .int .u64 a3, .int .i64 a4, .int .i64 a5, .int .u64 b0, .int .u64 b1, .int .u64 b2, .int .u64 b3, .int .i64 b4, .int .i64 b5, .int .u64 c, .bool on, .int .u64 tu, .int .u64 n0, .int .u64 n1, .int .u64 n2, .int .u64 n3, .int .i64 n4, .int .i64 n5] 46 (0, 0)) :: L)) := ⟨hO⟩
 clear hO
 have hup := Try.underlying46
 have hun := Try.underlying26
 have hut := Try.underlying24
 have huu := Try.underlying22
 have hui := Try.underlying2
 have hub := Try.underlying4
 unfold xf_add at h
 dsimp only at h
 obtain ⟨⟨t0, t1⟩, h0, h_⟩ := Option.bind_eq_some_iff.mp h
 clear h
 have h := h_
 clear h_
 have HT : Aside0 (tnum_Add.f a0 a1 b0 b1 = some (t0, t1)) := ⟨h0⟩
 clear h0
 dsimp only at h
 obtain ⟨⟨l0, l1⟩, h0, h_⟩ := Option.bind_eq_some_iff.mp h
 clear h
 have h := h_
 clear h_
 have HS1 : Aside0 (xfer_sum.f a4 b4 = some (l0, l1)) := ⟨h0⟩
 clear h0
 dsimp only at h
 obtain ⟨⟨m0, m1⟩, h0, h_⟩ := Option.bind_eq_some_iff.mp h
 clear h
 have h := h_
 clear h_
 have HS2 : Aside0 (xfer_sum.f a5 b5 = some (m0, m1)) := ⟨h0⟩
 clear h0
 dsimp only at h
 go_enter Try.func27, Try.ntmps27
 try go_wp2
 refine start_ (n := 16) (S := fun W => Own w0 W ((gp, .cells #[.int .u64 a0, .int .u64 a1, .int .u64 a2, .int .u64 a3, .int .i64 a4, .int .i64 a5, .int .u64 b0, .int .u64 b1, .int .u64 b2, .int .u64 b3, .int .i64 b4, .int .i64 b5, .int .u64 c, .bool on, .int .u64 tu, .int .u64 n0, .int .u64 n1, .int .u64 n2, .int .u64 n3, .int .i64 n4, .int .i64 n5] 46 (0, 0)) :: L)) (ds := [15]) #[false, false, false, false, false, false, false, false, false, false, false, false, false, false, false, false] (by kernel_rfl) rfl rfl (Own.drew (HO.out)) (fun hHeld => ?_)
 have HO_ := Aside0.mk HO.out.drew
 clear HO
 have HO := HO_
 clear HO_
 generalize World.drew _ = wr at HO hHeld ⊢
 refine Hp.pu_ 0 7 (Hp.up 16 1) ?_
 refine Hp.pu_ 1 8 (Hp.up 16 2) ?_
 refine Hp.pu_ 2 9 (Hp.up 16 3) ?_
 refine Hp.pu_ 3 10 (Hp.up 16 4) ?_
 refine Hp.pu_ 4 11 (Hp.up 16 5) ?_
 refine take_ (i := 5) (N := some 12) (v := .agg #[.int .u64 a0, .int .u64 a1]) (a' := ?_) (Hp.up 16 6) rfl rfl (by kernel_rfl) (fun _ _ _ h => h) (own_yieldN (by rfl) (x := .tmp 11) rfl (by rfl) (.head) (vs := [.int .u64 a0, .int .u64 a1]) (by rfl) Try.underlying24 (by rfl) (by kernel_rfl) rfl) hHeld ?_ ?_
 rotate_left
 ·simp only [Act.put, List.setIfInBounds_toArray, List.set_cons_zero, List.set_cons_succ, i64_w, i32_w]
  rfl
 refine Hp.pu_ 6 13 (Hp.up 16 7) ?_
 refine Hp.pu_ 7 14 (Hp.up 16 8) ?_
 refine Hp.pu_ 8 15 (Hp.up 16 9) ?_
 refine Hp.pu_ 9 16 (Hp.up 16 10) ?_
 refine take_ (i := 10) (N := some 17) (v := .agg #[.int .u64 b0, .int .u64 b1]) (a' := ?_) (Hp.up 16 11) rfl rfl (by kernel_rfl) (fun _ _ _ h => h) (own_yieldN (by rfl) (x := .tmp 16) rfl (by rfl) (.head) (vs := [.int .u64 b0, .int .u64 b1]) (by rfl) Try.underlying24 (by rfl) (by kernel_rfl) rfl) hHeld ?_ ?_
 rotate_left
 ·simp only [Act.put, List.setIfInBounds_toArray, List.set_cons_zero, List.set_cons_succ, i64_w, i32_w]
  rfl
 refine one_ (i := 11) (N := some 18) (Hp.up 16 12) rfl rfl (by kernel_rfl) (by decide) (fun K hK => ?_)
 refine goes_ Try.func60 (by kernel_rfl) rfl #[.agg #[.int .u64 a0, .int .u64 a1], .agg #[.int .u64 b0, .int .u64 b1]] (by rfl) rfl rfl (by (try simp only [List.map_toArray, List.map_cons, List.map_nil]); first | done | rfl) ?_
 refine (tnum_Add.calls a0 a1 b0 b1 t0 t1 _ HT.out).mono ?_
 rintro e wx ⟨rfl, hb⟩
 refine ⟨_, rfl, ?_⟩
 have hO_ := HO.out.below hb
 clear hb
 clear HO; have HO := Aside0.mk hO_; clear hO_
 refine hK.out _ _ (HO.out) (fun hHeld => ?_)
 clear hK K
 refine norm_ (a' := ?_) ?_ ?_
 rotate_left
 ·show Act.put _ (some 18) _ = _
  simp only [Act.put, List.setIfInBounds_toArray, List.set_cons_zero, List.set_cons_succ, i64_w, i32_w]
  rfl
 refine Hp.pu_ 12 19 (Hp.up 16 13) ?_
 refine Hp.pu_ 13 20 (Hp.up 16 14) ?_
 refine Hp.pu_ 14 21 (Hp.up 16 15) ?_
 refine last_ (i := 15) (N := none) (Hp.up 16 16) rfl rfl (by kernel_rfl) (by decide) (fun K hK => ?_)
 refine own_storeN_k HO.out (by rfl) rfl (ty := 24) (x := .tmp 21) (y := .tmp 18) (vs := #[.int .u64 t0, .int .u64 t1]) (cs' := #[.int .u64 a0, .int .u64 a1, .int .u64 a2, .int .u64 a3, .int .i64 a4, .int .i64 a5, .int .u64 b0, .int .u64 b1, .int .u64 b2, .int .u64 b3, .int .i64 b4, .int .i64 b5, .int .u64 c, .bool on, .int .u64 tu, .int .u64 t0, .int .u64 t1, .int .u64 n2, .int .u64 n3, .int .i64 n4, .int .i64 n5]) rfl (by rfl) (by rfl) (by (repeat (first | exact .head | apply Ext.tail))) (by kernel_rfl) (by kernel_rfl) (by first | decide | (simp; done)) (by rfl) ?_
 intro wc hO_
 clear HO; have HO := Aside0.mk hO_; clear hO_
 refine hK.out _ _ ?_
 clear hK K
 refine done_ (by kernel_rfl) ?_
 clear hHeld
 try go_wp2
 refine start_ (n := 12) (S := fun W => Own w0 W ((gp, .cells #[.int .u64 a0, .int .u64 a1, .int .u64 a2, .int .u64 a3, .int .i64 a4, .int .i64 a5, .int .u64 b0, .int .u64 b1, .int .u64 b2, .int .u64 b3, .int .i64 b4, .int .i64 b5, .int .u64 c, .bool on, .int .u64 tu, .int .u64 t0, .int .u64 t1, .int .u64 n2, .int .u64 n3, .int .i64 n4, .int .i64 n5] 46 (0, 0)) :: L)) (ds := []) #[false, false, false, false, false, false, false, false, false, false, false, false] (by kernel_rfl) rfl rfl (Own.drew (HO.out)) (fun hHeld => ?_)
 have HO_ := Aside0.mk HO.out.drew
 clear HO
 have HO := HO_
 clear HO_
 generalize World.drew _ = wr at HO hHeld ⊢
 refine Hp.pu_ 0 22 (Hp.up 12 1) ?_
 refine Hp.pu_ 1 23 (Hp.up 12 2) ?_
 refine Hp.pu_ 2 24 (Hp.up 12 3) ?_
 refine Hp.pu_ 3 25 (Hp.up 12 4) ?_
 refine take_ (i := 4) (N := some 26) (v := .int .u64 a3) (a' := ?_) (Hp.up 12 5) rfl rfl (by kernel_rfl) (fun _ _ _ h => h) (own_yield1 (by rfl) (x := .tmp 25) rfl (by rfl) (.head) Try.underlying22 (by rfl) (by rfl)) hHeld ?_ ?_
 rotate_left
 ·simp only [Act.put, List.setIfInBounds_toArray, List.set_cons_zero, List.set_cons_succ, i64_w, i32_w]
  rfl
 refine Hp.pu_ 5 27 (Hp.up 12 6) ?_
 refine Hp.pu_ 6 28 (Hp.up 12 7) ?_
 refine Hp.pu_ 7 29 (Hp.up 12 8) ?_
 refine Hp.pu_ 8 30 (Hp.up 12 9) ?_
 refine take_ (i := 9) (N := some 31) (v := .int .u64 b3) (a' := ?_) (Hp.up 12 10) rfl rfl (by kernel_rfl) (fun _ _ _ h => h) (own_yield1 (by rfl) (x := .tmp 30) rfl (by rfl) (.head) Try.underlying22 (by rfl) (by rfl)) hHeld ?_ ?_
 rotate_left
 ·simp only [Act.put, List.setIfInBounds_toArray, List.set_cons_zero, List.set_cons_succ, i64_w, i32_w]
  rfl
 refine Hp.pu_ 10 32 (Hp.up 12 11) ?_
 refine Hp.pu_ 11 2 (Hp.up 12 12) ?_
 refine done_ (by kernel_rfl) ?_
 clear hHeld
 by_cases c1 : (decide (IntKind.u64.wrap (a3 + b3) ≥ a3)) = true
 ·skip
  rw [if_pos c1, if_pos c1] at h
  have cp : (IntKind.u64.wrap (a3 + b3) ≥ a3) = True := eq_true (of_decide_eq_true c1)
  go_wp2_with (first | ((with_reducible refine gate_dst (N := 38) rfl ?_); refine own_load HO.out rfl (x := .tmp 37) (v := .int .u64 a3) rfl (by rfl) (by (repeat (first | exact .head | apply Ext.tail))) Try.underlying22 (by rfl) (by rfl) ?_))
  refine start_ (n := 14) (S := fun W => Own w0 W ((gp, .cells #[.int .u64 a0, .int .u64 a1, .int .u64 a2, .int .u64 a3, .int .i64 a4, .int .i64 a5, .int .u64 b0, .int .u64 b1, .int .u64 b2, .int .u64 b3, .int .i64 b4, .int .i64 b5, .int .u64 c, .bool on, .int .u64 tu, .int .u64 t0, .int .u64 t1, .int .u64 n2, .int .u64 n3, .int .i64 n4, .int .i64 n5] 46 (0, 0)) :: L)) (ds := [13]) #[false, false, false, false, false, false, false, false, false, false, false, false, false, false] (by kernel_rfl) rfl rfl (Own.drew (HO.out)) (fun hHeld => ?_)
  have HO_ := Aside0.mk HO.out.drew
  clear HO
  have HO := HO_
  clear HO_
  generalize World.drew _ = wr at HO hHeld ⊢
  refine Hp.pu_ 0 40 (Hp.up 14 1) ?_
  refine Hp.pu_ 1 41 (Hp.up 14 2) ?_
  refine Hp.pu_ 2 42 (Hp.up 14 3) ?_
  refine Hp.pu_ 3 43 (Hp.up 14 4) ?_
  refine Hp.pu_ 4 44 (Hp.up 14 5) ?_
  refine take_ (i := 5) (N := some 45) (v := .int .u64 a2) (a' := ?_) (Hp.up 14 6) rfl rfl (by kernel_rfl) (fun _ _ _ h => h) (own_yield1 (by rfl) (x := .tmp 44) rfl (by rfl) (.head) Try.underlying22 (by rfl) (by rfl)) hHeld ?_ ?_
  rotate_left
  ·simp only [Act.put, List.setIfInBounds_toArray, List.set_cons_zero, List.set_cons_succ, i64_w, i32_w]
   rfl
  refine Hp.pu_ 6 46 (Hp.up 14 7) ?_
  refine Hp.pu_ 7 47 (Hp.up 14 8) ?_
  refine Hp.pu_ 8 48 (Hp.up 14 9) ?_
  refine Hp.pu_ 9 49 (Hp.up 14 10) ?_
  refine take_ (i := 10) (N := some 50) (v := .int .u64 b2) (a' := ?_) (Hp.up 14 11) rfl rfl (by kernel_rfl) (fun _ _ _ h => h) (own_yield1 (by rfl) (x := .tmp 49) rfl (by rfl) (.head) Try.underlying22 (by rfl) (by rfl)) hHeld ?_ ?_
  rotate_left
  ·simp only [Act.put, List.setIfInBounds_toArray, List.set_cons_zero, List.set_cons_succ, i64_w, i32_w]
   rfl
  refine Hp.pu_ 11 51 (Hp.up 14 12) ?_
  refine Hp.pu_ 12 52 (Hp.up 14 13) ?_
  refine last_ (i := 13) (N := some 53) (Hp.up 14 14) rfl rfl (by kernel_rfl) (by decide) (fun K hK => ?_)
  refine goes_ Try.func61 (by kernel_rfl) rfl #[.pointer (some ⟨gp, 0, none⟩), .int .u64 (IntKind.u64.wrap (a2 + b2)), .int .u64 (IntKind.u64.wrap (a3 + b3))] (by rfl) rfl rfl (by (try simp only [List.map_toArray, List.map_cons, List.map_nil]); first | done | rfl) ?_
  refine (xf_unsigned (IntKind.u64.wrap (a2 + b2)) (IntKind.u64.wrap (a3 + b3)) ⟨a0, a1, a2, a3, a4, a5, b0, b1, b2, b3, b4, b5, c, on, tu, t0, t1, n2, n3, n4, n5⟩ gp w0 _ L HO.out).mono ?_
  rintro e wx ⟨rfl, hO_⟩
  refine ⟨_, rfl, ?_⟩
  have hO_ : Own w0 wx ((gp, .cells #[.int .u64 a0, .int .u64 a1, .int .u64 a2, .int .u64 a3, .int .i64 a4, .int .i64 a5, .int .u64 b0, .int .u64 b1, .int .u64 b2, .int .u64 b3, .int .i64 b4, .int .i64 b5, .int .u64 c, .bool on, .int .u64 tu, .int .u64 t0, .int .u64 t1, .int .u64 (IntKind.u64.wrap (a2 + b2)), .int .u64 (IntKind.u64.wrap (a3 + b3)), .int .i64 n4, .int .i64 n5] 46 (0, 0)) :: L) := hO_; clear HO; have HO := Aside0.mk hO_; clear hO_
  refine hK.out _ _ ?_
  clear hK K
  refine norm_ (a' := ?_) ?_ ?_
  rotate_left
  ·show Act.put _ (some 53) _ = _
   simp only [Act.put, List.setIfInBounds_toArray, List.set_cons_zero, List.set_cons_succ, i64_w, i32_w]
   rfl
  refine done_ (by kernel_rfl) ?_
  clear hHeld
  try go_wp2
  refine start_ (n := 16) (S := fun W => Own w0 W ((gp, .cells #[.int .u64 a0, .int .u64 a1, .int .u64 a2, .int .u64 a3, .int .i64 a4, .int .i64 a5, .int .u64 b0, .int .u64 b1, .int .u64 b2, .int .u64 b3, .int .i64 b4, .int .i64 b5, .int .u64 c, .bool on, .int .u64 tu, .int .u64 t0, .int .u64 t1, .int .u64 (IntKind.u64.wrap (a2 + b2)), .int .u64 (IntKind.u64.wrap (a3 + b3)), .int .i64 n4, .int .i64 n5] 46 (0, 0)) :: L)) (ds := []) #[false, false, false, false, false, false, false, false, false, false, false, false, false, false, false, false] (by kernel_rfl) rfl rfl (Own.drew (HO.out)) (fun hHeld => ?_)
  have HO_ := Aside0.mk HO.out.drew
  clear HO
  have HO := HO_
  clear HO_
  generalize World.drew _ = wr at HO hHeld ⊢
  refine Hp.pu_ 0 55 (Hp.up 16 1) ?_
  refine Hp.pu_ 1 56 (Hp.up 16 2) ?_
  refine Hp.pu_ 2 57 (Hp.up 16 3) ?_
  refine Hp.pu_ 3 58 (Hp.up 16 4) ?_
  refine take_ (i := 4) (N := some 59) (v := .int .i64 a4) (a' := ?_) (Hp.up 16 5) rfl rfl (by kernel_rfl) (fun _ _ _ h => h) (own_yield1 (by rfl) (x := .tmp 58) rfl (by rfl) (.head) Try.underlying2 (by rfl) (by rfl)) hHeld ?_ ?_
  rotate_left
  ·simp only [Act.put, List.setIfInBounds_toArray, List.set_cons_zero, List.set_cons_succ, i64_w, i32_w]
   rfl
  refine Hp.pu_ 5 60 (Hp.up 16 6) ?_
  refine Hp.pu_ 6 61 (Hp.up 16 7) ?_
  refine Hp.pu_ 7 62 (Hp.up 16 8) ?_
  refine Hp.pu_ 8 63 (Hp.up 16 9) ?_
  refine take_ (i := 9) (N := some 64) (v := .int .i64 b4) (a' := ?_) (Hp.up 16 10) rfl rfl (by kernel_rfl) (fun _ _ _ h => h) (own_yield1 (by rfl) (x := .tmp 63) rfl (by rfl) (.head) Try.underlying2 (by rfl) (by rfl)) hHeld ?_ ?_
  rotate_left
  ·simp only [Act.put, List.setIfInBounds_toArray, List.set_cons_zero, List.set_cons_succ, i64_w, i32_w]
   rfl
  refine one_ (i := 10) (N := some 65) (Hp.up 16 11) rfl rfl (by kernel_rfl) (by decide) (fun K hK => ?_)
  refine goes_ Try.func62 (by kernel_rfl) rfl #[.int .i64 a4, .int .i64 b4] (by rfl) rfl rfl (by (try simp only [List.map_toArray, List.map_cons, List.map_nil]); first | done | rfl) ?_
  refine (xfer_sum.calls a4 b4 l0 l1 _ HS1.out).mono ?_
  rintro e wx ⟨rfl, hd_⟩
  refine ⟨_, rfl, ?_⟩
  have hO_ := HO.out.below (Drawn0.below hd_)
  clear hd_
  clear HO; have HO := Aside0.mk hO_; clear hO_
  refine hK.out _ _ (HO.out) (fun hHeld => ?_)
  clear hK K
  refine norm_ (a' := ?_) ?_ ?_
  rotate_left
  ·show Act.put _ (some 65) _ = _
   simp only [Act.put, List.setIfInBounds_toArray, List.set_cons_zero, List.set_cons_succ, i64_w, i32_w]
   rfl
  refine Hp.pu_ 11 54 (Hp.up 16 12) ?_
  refine Hp.pu_ 12 66 (Hp.up 16 13) ?_
  refine Hp.pu_ 13 67 (Hp.up 16 14) ?_
  refine Hp.pu_ 14 3 (Hp.up 16 15) ?_
  refine Hp.pu_ 15 4 (Hp.up 16 16) ?_
  refine done_ (by kernel_rfl) ?_
  clear hHeld
  try go_wp2
  refine start_ (n := 16) (S := fun W => Own w0 W ((gp, .cells #[.int .u64 a0, .int .u64 a1, .int .u64 a2, .int .u64 a3, .int .i64 a4, .int .i64 a5, .int .u64 b0, .int .u64 b1, .int .u64 b2, .int .u64 b3, .int .i64 b4, .int .i64 b5, .int .u64 c, .bool on, .int .u64 tu, .int .u64 t0, .int .u64 t1, .int .u64 (IntKind.u64.wrap (a2 + b2)), .int .u64 (IntKind.u64.wrap (a3 + b3)), .int .i64 n4, .int .i64 n5] 46 (0, 0)) :: L)) (ds := []) #[false, false, false, false, false, false, false, false, false, false, false, false, false, false, false, false] (by kernel_rfl) rfl rfl (Own.drew (HO.out)) (fun hHeld => ?_)
  have HO_ := Aside0.mk HO.out.drew
  clear HO
  have HO := HO_
  clear HO_
  generalize World.drew _ = wr at HO hHeld ⊢
  refine Hp.pu_ 0 69 (Hp.up 16 1) ?_
  refine Hp.pu_ 1 70 (Hp.up 16 2) ?_
  refine Hp.pu_ 2 71 (Hp.up 16 3) ?_
  refine Hp.pu_ 3 72 (Hp.up 16 4) ?_
  refine take_ (i := 4) (N := some 73) (v := .int .i64 a5) (a' := ?_) (Hp.up 16 5) rfl rfl (by kernel_rfl) (fun _ _ _ h => h) (own_yield1 (by rfl) (x := .tmp 72) rfl (by rfl) (.head) Try.underlying2 (by rfl) (by rfl)) hHeld ?_ ?_
  rotate_left
  ·simp only [Act.put, List.setIfInBounds_toArray, List.set_cons_zero, List.set_cons_succ, i64_w, i32_w]
   rfl
  refine Hp.pu_ 5 74 (Hp.up 16 6) ?_
  refine Hp.pu_ 6 75 (Hp.up 16 7) ?_
  refine Hp.pu_ 7 76 (Hp.up 16 8) ?_
  refine Hp.pu_ 8 77 (Hp.up 16 9) ?_
  refine take_ (i := 9) (N := some 78) (v := .int .i64 b5) (a' := ?_) (Hp.up 16 10) rfl rfl (by kernel_rfl) (fun _ _ _ h => h) (own_yield1 (by rfl) (x := .tmp 77) rfl (by rfl) (.head) Try.underlying2 (by rfl) (by rfl)) hHeld ?_ ?_
  rotate_left
  ·simp only [Act.put, List.setIfInBounds_toArray, List.set_cons_zero, List.set_cons_succ, i64_w, i32_w]
   rfl
  refine one_ (i := 10) (N := some 79) (Hp.up 16 11) rfl rfl (by kernel_rfl) (by decide) (fun K hK => ?_)
  refine goes_ Try.func62 (by kernel_rfl) rfl #[.int .i64 a5, .int .i64 b5] (by rfl) rfl rfl (by (try simp only [List.map_toArray, List.map_cons, List.map_nil]); first | done | rfl) ?_
  refine (xfer_sum.calls a5 b5 m0 m1 _ HS2.out).mono ?_
  rintro e wx ⟨rfl, hd_⟩
  refine ⟨_, rfl, ?_⟩
  have hO_ := HO.out.below (Drawn0.below hd_)
  clear hd_
  clear HO; have HO := Aside0.mk hO_; clear hO_
  refine hK.out _ _ (HO.out) (fun hHeld => ?_)
  clear hK K
  refine norm_ (a' := ?_) ?_ ?_
  rotate_left
  ·show Act.put _ (some 79) _ = _
   simp only [Act.put, List.setIfInBounds_toArray, List.set_cons_zero, List.set_cons_succ, i64_w, i32_w]
   rfl
  refine Hp.pu_ 11 68 (Hp.up 16 12) ?_
  refine Hp.pu_ 12 80 (Hp.up 16 13) ?_
  refine Hp.pu_ 13 81 (Hp.up 16 14) ?_
  refine Hp.pu_ 14 5 (Hp.up 16 15) ?_
  refine Hp.pu_ 15 6 (Hp.up 16 16) ?_
  refine done_ (by kernel_rfl) ?_
  clear hHeld
  cases l1 with
  | false =>
   simp only [Bool.false_and, Bool.and_false, Bool.and_self, Bool.false_eq_true, if_true, if_false] at h
   obtain rfl := Option.some.inj h
   clear h
   try go_wp2
   (first | go_end0 | refine bodyPost_ret (results_none rfl _ _ _) rfl ?_)
   exact ⟨rfl, HO.out⟩
  | true =>
   cases m1 with
   | false =>
    simp only [Bool.false_and, Bool.and_false, Bool.and_self, Bool.false_eq_true, if_true, if_false] at h
    obtain rfl := Option.some.inj h
    clear h
    try go_wp2
    (first | go_end0 | refine bodyPost_ret (results_none rfl _ _ _) rfl ?_)
    exact ⟨rfl, HO.out⟩
   | true =>
    simp only [Bool.false_and, Bool.and_false, Bool.and_self, Bool.false_eq_true, if_true, if_false] at h
    obtain rfl := Option.some.inj h
    clear h
    go_wp2_with (first | ((with_reducible refine gate_callee (f := 63) rfl ?_); (with_reducible refine gate_dst (N := 89) rfl ?_); refine goesL_ (some 89) rfl rfl Try.func63 (by kernel_rfl) rfl #[.pointer (some ⟨gp, 0, none⟩), .int .i64 l0, .int .i64 m0] rfl (by (try simp only [List.map_toArray, List.map_cons, List.map_nil]); first | done | rfl) ?_; (with_reducible refine (xf_signed (l0) (m0) ⟨a0, a1, a2, a3, a4, a5, b0, b1, b2, b3, b4, b5, c, on, tu, t0, t1, IntKind.u64.wrap (a2 + b2), IntKind.u64.wrap (a3 + b3), n4, n5⟩ gp w0 _ L HO.out).mono ?_); rintro e wx ⟨rfl, hO_⟩; refine ⟨_, rfl, ?_⟩; have hO_ : Own w0 wx ((gp, .cells #[.int .u64 a0, .int .u64 a1, .int .u64 a2, .int .u64 a3, .int .i64 a4, .int .i64 a5, .int .u64 b0, .int .u64 b1, .int .u64 b2, .int .u64 b3, .int .i64 b4, .int .i64 b5, .int .u64 c, .bool on, .int .u64 tu, .int .u64 t0, .int .u64 t1, .int .u64 (IntKind.u64.wrap (a2 + b2)), .int .u64 (IntKind.u64.wrap (a3 + b3)), .int .i64 l0, .int .i64 m0] 46 (0, 0)) :: L) := hO_; clear HO; have HO := Aside0.mk hO_; clear hO_))
    (first | go_end0 | refine bodyPost_ret (results_none rfl _ _ _) rfl ?_)
    exact ⟨rfl, HO.out⟩
 ·skip
  rw [if_neg c1, if_neg c1] at h
  have c1 : (decide (IntKind.u64.wrap (a3 + b3) ≥ a3)) = false := by simpa using c1
  have cp : (IntKind.u64.wrap (a3 + b3) ≥ a3) = False := eq_false (of_decide_eq_false c1)
  go_wp2_with (first | ((with_reducible refine gate_dst (N := 38) rfl ?_); refine own_load HO.out rfl (x := .tmp 37) (v := .int .u64 a3) rfl (by rfl) (by (repeat (first | exact .head | apply Ext.tail))) Try.underlying22 (by rfl) (by rfl) ?_))
  refine start_ (n := 16) (S := fun W => Own w0 W ((gp, .cells #[.int .u64 a0, .int .u64 a1, .int .u64 a2, .int .u64 a3, .int .i64 a4, .int .i64 a5, .int .u64 b0, .int .u64 b1, .int .u64 b2, .int .u64 b3, .int .i64 b4, .int .i64 b5, .int .u64 c, .bool on, .int .u64 tu, .int .u64 t0, .int .u64 t1, .int .u64 n2, .int .u64 n3, .int .i64 n4, .int .i64 n5] 46 (0, 0)) :: L)) (ds := []) #[false, false, false, false, false, false, false, false, false, false, false, false, false, false, false, false] (by kernel_rfl) rfl rfl (Own.drew (HO.out)) (fun hHeld => ?_)
  have HO_ := Aside0.mk HO.out.drew
  clear HO
  have HO := HO_
  clear HO_
  generalize World.drew _ = wr at HO hHeld ⊢
  refine Hp.pu_ 0 55 (Hp.up 16 1) ?_
  refine Hp.pu_ 1 56 (Hp.up 16 2) ?_
  refine Hp.pu_ 2 57 (Hp.up 16 3) ?_
  refine Hp.pu_ 3 58 (Hp.up 16 4) ?_
  refine take_ (i := 4) (N := some 59) (v := .int .i64 a4) (a' := ?_) (Hp.up 16 5) rfl rfl (by kernel_rfl) (fun _ _ _ h => h) (own_yield1 (by rfl) (x := .tmp 58) rfl (by rfl) (.head) Try.underlying2 (by rfl) (by rfl)) hHeld ?_ ?_
  rotate_left
  ·simp only [Act.put, List.setIfInBounds_toArray, List.set_cons_zero, List.set_cons_succ, i64_w, i32_w]
   rfl
  refine Hp.pu_ 5 60 (Hp.up 16 6) ?_
  refine Hp.pu_ 6 61 (Hp.up 16 7) ?_
  refine Hp.pu_ 7 62 (Hp.up 16 8) ?_
  refine Hp.pu_ 8 63 (Hp.up 16 9) ?_
  refine take_ (i := 9) (N := some 64) (v := .int .i64 b4) (a' := ?_) (Hp.up 16 10) rfl rfl (by kernel_rfl) (fun _ _ _ h => h) (own_yield1 (by rfl) (x := .tmp 63) rfl (by rfl) (.head) Try.underlying2 (by rfl) (by rfl)) hHeld ?_ ?_
  rotate_left
  ·simp only [Act.put, List.setIfInBounds_toArray, List.set_cons_zero, List.set_cons_succ, i64_w, i32_w]
   rfl
  refine one_ (i := 10) (N := some 65) (Hp.up 16 11) rfl rfl (by kernel_rfl) (by decide) (fun K hK => ?_)
  refine goes_ Try.func62 (by kernel_rfl) rfl #[.int .i64 a4, .int .i64 b4] (by rfl) rfl rfl (by (try simp only [List.map_toArray, List.map_cons, List.map_nil]); first | done | rfl) ?_
  refine (xfer_sum.calls a4 b4 l0 l1 _ HS1.out).mono ?_
  rintro e wx ⟨rfl, hd_⟩
  refine ⟨_, rfl, ?_⟩
  have hO_ := HO.out.below (Drawn0.below hd_)
  clear hd_
  clear HO; have HO := Aside0.mk hO_; clear hO_
  refine hK.out _ _ (HO.out) (fun hHeld => ?_)
  clear hK K
  refine norm_ (a' := ?_) ?_ ?_
  rotate_left
  ·show Act.put _ (some 65) _ = _
   simp only [Act.put, List.setIfInBounds_toArray, List.set_cons_zero, List.set_cons_succ, i64_w, i32_w]
   rfl
  refine Hp.pu_ 11 54 (Hp.up 16 12) ?_
  refine Hp.pu_ 12 66 (Hp.up 16 13) ?_
  refine Hp.pu_ 13 67 (Hp.up 16 14) ?_
  refine Hp.pu_ 14 3 (Hp.up 16 15) ?_
  refine Hp.pu_ 15 4 (Hp.up 16 16) ?_
  refine done_ (by kernel_rfl) ?_
  clear hHeld
  try go_wp2
  refine start_ (n := 16) (S := fun W => Own w0 W ((gp, .cells #[.int .u64 a0, .int .u64 a1, .int .u64 a2, .int .u64 a3, .int .i64 a4, .int .i64 a5, .int .u64 b0, .int .u64 b1, .int .u64 b2, .int .u64 b3, .int .i64 b4, .int .i64 b5, .int .u64 c, .bool on, .int .u64 tu, .int .u64 t0, .int .u64 t1, .int .u64 n2, .int .u64 n3, .int .i64 n4, .int .i64 n5] 46 (0, 0)) :: L)) (ds := []) #[false, false, false, false, false, false, false, false, false, false, false, false, false, false, false, false] (by kernel_rfl) rfl rfl (Own.drew (HO.out)) (fun hHeld => ?_)
  have HO_ := Aside0.mk HO.out.drew
  clear HO
  have HO := HO_
  clear HO_
  generalize World.drew _ = wr at HO hHeld ⊢
  refine Hp.pu_ 0 69 (Hp.up 16 1) ?_
  refine Hp.pu_ 1 70 (Hp.up 16 2) ?_
  refine Hp.pu_ 2 71 (Hp.up 16 3) ?_
  refine Hp.pu_ 3 72 (Hp.up 16 4) ?_
  refine take_ (i := 4) (N := some 73) (v := .int .i64 a5) (a' := ?_) (Hp.up 16 5) rfl rfl (by kernel_rfl) (fun _ _ _ h => h) (own_yield1 (by rfl) (x := .tmp 72) rfl (by rfl) (.head) Try.underlying2 (by rfl) (by rfl)) hHeld ?_ ?_
  rotate_left
  ·simp only [Act.put, List.setIfInBounds_toArray, List.set_cons_zero, List.set_cons_succ, i64_w, i32_w]
   rfl
  refine Hp.pu_ 5 74 (Hp.up 16 6) ?_
  refine Hp.pu_ 6 75 (Hp.up 16 7) ?_
  refine Hp.pu_ 7 76 (Hp.up 16 8) ?_
  refine Hp.pu_ 8 77 (Hp.up 16 9) ?_
  refine take_ (i := 9) (N := some 78) (v := .int .i64 b5) (a' := ?_) (Hp.up 16 10) rfl rfl (by kernel_rfl) (fun _ _ _ h => h) (own_yield1 (by rfl) (x := .tmp 77) rfl (by rfl) (.head) Try.underlying2 (by rfl) (by rfl)) hHeld ?_ ?_
  rotate_left
  ·simp only [Act.put, List.setIfInBounds_toArray, List.set_cons_zero, List.set_cons_succ, i64_w, i32_w]
   rfl
  refine one_ (i := 10) (N := some 79) (Hp.up 16 11) rfl rfl (by kernel_rfl) (by decide) (fun K hK => ?_)
  refine goes_ Try.func62 (by kernel_rfl) rfl #[.int .i64 a5, .int .i64 b5] (by rfl) rfl rfl (by (try simp only [List.map_toArray, List.map_cons, List.map_nil]); first | done | rfl) ?_
  refine (xfer_sum.calls a5 b5 m0 m1 _ HS2.out).mono ?_
  rintro e wx ⟨rfl, hd_⟩
  refine ⟨_, rfl, ?_⟩
  have hO_ := HO.out.below (Drawn0.below hd_)
  clear hd_
  clear HO; have HO := Aside0.mk hO_; clear hO_
  refine hK.out _ _ (HO.out) (fun hHeld => ?_)
  clear hK K
  refine norm_ (a' := ?_) ?_ ?_
  rotate_left
  ·show Act.put _ (some 79) _ = _
   simp only [Act.put, List.setIfInBounds_toArray, List.set_cons_zero, List.set_cons_succ, i64_w, i32_w]
   rfl
  refine Hp.pu_ 11 68 (Hp.up 16 12) ?_
  refine Hp.pu_ 12 80 (Hp.up 16 13) ?_
  refine Hp.pu_ 13 81 (Hp.up 16 14) ?_
  refine Hp.pu_ 14 5 (Hp.up 16 15) ?_
  refine Hp.pu_ 15 6 (Hp.up 16 16) ?_
  refine done_ (by kernel_rfl) ?_
  clear hHeld
  cases l1 with
  | false =>
   simp only [Bool.false_and, Bool.and_false, Bool.and_self, Bool.false_eq_true, if_true, if_false] at h
   obtain rfl := Option.some.inj h
   clear h
   try go_wp2
   (first | go_end0 | refine bodyPost_ret (results_none rfl _ _ _) rfl ?_)
   exact ⟨rfl, HO.out⟩
  | true =>
   cases m1 with
   | false =>
    simp only [Bool.false_and, Bool.and_false, Bool.and_self, Bool.false_eq_true, if_true, if_false] at h
    obtain rfl := Option.some.inj h
    clear h
    try go_wp2
    (first | go_end0 | refine bodyPost_ret (results_none rfl _ _ _) rfl ?_)
    exact ⟨rfl, HO.out⟩
   | true =>
    simp only [Bool.false_and, Bool.and_false, Bool.and_self, Bool.false_eq_true, if_true, if_false] at h
    obtain rfl := Option.some.inj h
    clear h
    go_wp2_with (first | ((with_reducible refine gate_callee (f := 63) rfl ?_); (with_reducible refine gate_dst (N := 89) rfl ?_); refine goesL_ (some 89) rfl rfl Try.func63 (by kernel_rfl) rfl #[.pointer (some ⟨gp, 0, none⟩), .int .i64 l0, .int .i64 m0] rfl (by (try simp only [List.map_toArray, List.map_cons, List.map_nil]); first | done | rfl) ?_; (with_reducible refine (xf_signed (l0) (m0) ⟨a0, a1, a2, a3, a4, a5, b0, b1, b2, b3, b4, b5, c, on, tu, t0, t1, n2, n3, n4, n5⟩ gp w0 _ L HO.out).mono ?_); rintro e wx ⟨rfl, hO_⟩; refine ⟨_, rfl, ?_⟩; have hO_ : Own w0 wx ((gp, .cells #[.int .u64 a0, .int .u64 a1, .int .u64 a2, .int .u64 a3, .int .i64 a4, .int .i64 a5, .int .u64 b0, .int .u64 b1, .int .u64 b2, .int .u64 b3, .int .i64 b4, .int .i64 b5, .int .u64 c, .bool on, .int .u64 tu, .int .u64 t0, .int .u64 t1, .int .u64 n2, .int .u64 n3, .int .i64 l0, .int .i64 m0] 46 (0, 0)) :: L) := hO_; clear HO; have HO := Aside0.mk hO_; clear hO_))
    (first | go_end0 | refine bodyPost_ret (results_none rfl _ _ _) rfl ?_)
    exact ⟨rfl, HO.out⟩
def xf_sub (p : XfP) : Option XfP := match p with
 | ⟨a0, a1, a2, a3, a4, a5, b0, b1, b2, b3, b4, b5, c, on, tu, n0, n1, n2, n3, n4, n5⟩ => (tnum_Sub.f a0 a1 b0 b1).bind fun t => (xfer_less.f a4 b5).bind fun l => (xfer_less.f a5 b4).bind fun m => some ⟨a0, a1, a2, a3, a4, a5, b0, b1, b2, b3, b4, b5, c, on, tu, t.1, t.2, if (decide (b3 ≤ a2)) = true then IntKind.u64.wrap (a2 - b3) else n2, if (decide (b3 ≤ a2)) = true then IntKind.u64.wrap (a3 - b2) else n3, if (l.2 && m.2) = true then l.1 else n4, if (l.2 && m.2) = true then m.1 else n5⟩
set_option maxHeartbeats 8000000 in
set_option maxRecDepth 100000 in
theorem xf_sub_ok : XfOk 28 xf_sub := by
 intro p q gp w0 w L h hO
 obtain ⟨a0, a1, a2, a3, a4, a5, b0, b1, b2, b3, b4, b5, c, on, tu, n0, n1, n2, n3, n4, n5⟩ := p
 have HO : Aside0 (Own w0 w ((gp, .cells #[.int .u64 a0, .int .u64 a1, .int .u64 a2, .int .u64 a3, .int .i64 a4, .int .i64 a5, .int .u64 b0, .int .u64 b1, .int .u64 b2, .int .u64 b3, .int .i64 b4, .int .i64 b5, .int .u64 c, .bool on, .int .u64 tu, .int .u64 n0, .int .u64 n1, .int .u64 n2, .int .u64 n3, .int .i64 n4, .int .i64 n5] 46 (0, 0)) :: L)) := ⟨hO⟩
 clear hO
 have hup := Try.underlying46
 have hun := Try.underlying26
 have hut := Try.underlying24
 have huu := Try.underlying22
 have hui := Try.underlying2
 have hub := Try.underlying4
 unfold xf_sub at h
 dsimp only at h
 obtain ⟨⟨t0, t1⟩, h0, h_⟩ := Option.bind_eq_some_iff.mp h
 clear h
 have h := h_
 clear h_
 have HT : Aside0 (tnum_Sub.f a0 a1 b0 b1 = some (t0, t1)) := ⟨h0⟩
 clear h0
 dsimp only at h
 obtain ⟨⟨l0, l1⟩, h0, h_⟩ := Option.bind_eq_some_iff.mp h
 clear h
 have h := h_
 clear h_
 have HS1 : Aside0 (xfer_less.f a4 b5 = some (l0, l1)) := ⟨h0⟩
 clear h0
 dsimp only at h
 obtain ⟨⟨m0, m1⟩, h0, h_⟩ := Option.bind_eq_some_iff.mp h
 clear h
 have h := h_
 clear h_
 have HS2 : Aside0 (xfer_less.f a5 b4 = some (m0, m1)) := ⟨h0⟩
 clear h0
 dsimp only at h
 go_enter Try.func28, Try.ntmps28
 try go_wp2
 refine start_ (n := 16) (S := fun W => Own w0 W ((gp, .cells #[.int .u64 a0, .int .u64 a1, .int .u64 a2, .int .u64 a3, .int .i64 a4, .int .i64 a5, .int .u64 b0, .int .u64 b1, .int .u64 b2, .int .u64 b3, .int .i64 b4, .int .i64 b5, .int .u64 c, .bool on, .int .u64 tu, .int .u64 n0, .int .u64 n1, .int .u64 n2, .int .u64 n3, .int .i64 n4, .int .i64 n5] 46 (0, 0)) :: L)) (ds := [15]) #[false, false, false, false, false, false, false, false, false, false, false, false, false, false, false, false] (by kernel_rfl) rfl rfl (Own.drew (HO.out)) (fun hHeld => ?_)
 have HO_ := Aside0.mk HO.out.drew
 clear HO
 have HO := HO_
 clear HO_
 generalize World.drew _ = wr at HO hHeld ⊢
 refine Hp.pu_ 0 6 (Hp.up 16 1) ?_
 refine Hp.pu_ 1 7 (Hp.up 16 2) ?_
 refine Hp.pu_ 2 8 (Hp.up 16 3) ?_
 refine Hp.pu_ 3 9 (Hp.up 16 4) ?_
 refine Hp.pu_ 4 10 (Hp.up 16 5) ?_
 refine take_ (i := 5) (N := some 11) (v := .agg #[.int .u64 a0, .int .u64 a1]) (a' := ?_) (Hp.up 16 6) rfl rfl (by kernel_rfl) (fun _ _ _ h => h) (own_yieldN (by rfl) (x := .tmp 10) rfl (by rfl) (.head) (vs := [.int .u64 a0, .int .u64 a1]) (by rfl) Try.underlying24 (by rfl) (by kernel_rfl) rfl) hHeld ?_ ?_
 rotate_left
 ·simp only [Act.put, List.setIfInBounds_toArray, List.set_cons_zero, List.set_cons_succ, i64_w, i32_w]
  rfl
 refine Hp.pu_ 6 12 (Hp.up 16 7) ?_
 refine Hp.pu_ 7 13 (Hp.up 16 8) ?_
 refine Hp.pu_ 8 14 (Hp.up 16 9) ?_
 refine Hp.pu_ 9 15 (Hp.up 16 10) ?_
 refine take_ (i := 10) (N := some 16) (v := .agg #[.int .u64 b0, .int .u64 b1]) (a' := ?_) (Hp.up 16 11) rfl rfl (by kernel_rfl) (fun _ _ _ h => h) (own_yieldN (by rfl) (x := .tmp 15) rfl (by rfl) (.head) (vs := [.int .u64 b0, .int .u64 b1]) (by rfl) Try.underlying24 (by rfl) (by kernel_rfl) rfl) hHeld ?_ ?_
 rotate_left
 ·simp only [Act.put, List.setIfInBounds_toArray, List.set_cons_zero, List.set_cons_succ, i64_w, i32_w]
  rfl
 refine one_ (i := 11) (N := some 17) (Hp.up 16 12) rfl rfl (by kernel_rfl) (by decide) (fun K hK => ?_)
 refine goes_ Try.func64 (by kernel_rfl) rfl #[.agg #[.int .u64 a0, .int .u64 a1], .agg #[.int .u64 b0, .int .u64 b1]] (by rfl) rfl rfl (by (try simp only [List.map_toArray, List.map_cons, List.map_nil]); first | done | rfl) ?_
 refine (tnum_Sub.calls a0 a1 b0 b1 t0 t1 _ HT.out).mono ?_
 rintro e wx ⟨rfl, hb⟩
 refine ⟨_, rfl, ?_⟩
 have hO_ := HO.out.below hb
 clear hb
 clear HO; have HO := Aside0.mk hO_; clear hO_
 refine hK.out _ _ (HO.out) (fun hHeld => ?_)
 clear hK K
 refine norm_ (a' := ?_) ?_ ?_
 rotate_left
 ·show Act.put _ (some 17) _ = _
  simp only [Act.put, List.setIfInBounds_toArray, List.set_cons_zero, List.set_cons_succ, i64_w, i32_w]
  rfl
 refine Hp.pu_ 12 18 (Hp.up 16 13) ?_
 refine Hp.pu_ 13 19 (Hp.up 16 14) ?_
 refine Hp.pu_ 14 20 (Hp.up 16 15) ?_
 refine last_ (i := 15) (N := none) (Hp.up 16 16) rfl rfl (by kernel_rfl) (by decide) (fun K hK => ?_)
 refine own_storeN_k HO.out (by rfl) rfl (ty := 24) (x := .tmp 20) (y := .tmp 17) (vs := #[.int .u64 t0, .int .u64 t1]) (cs' := #[.int .u64 a0, .int .u64 a1, .int .u64 a2, .int .u64 a3, .int .i64 a4, .int .i64 a5, .int .u64 b0, .int .u64 b1, .int .u64 b2, .int .u64 b3, .int .i64 b4, .int .i64 b5, .int .u64 c, .bool on, .int .u64 tu, .int .u64 t0, .int .u64 t1, .int .u64 n2, .int .u64 n3, .int .i64 n4, .int .i64 n5]) rfl (by rfl) (by rfl) (by (repeat (first | exact .head | apply Ext.tail))) (by kernel_rfl) (by kernel_rfl) (by first | decide | (simp; done)) (by rfl) ?_
 intro wc hO_
 clear HO; have HO := Aside0.mk hO_; clear hO_
 refine hK.out _ _ ?_
 clear hK K
 refine done_ (by kernel_rfl) ?_
 clear hHeld
 try go_wp2
 refine start_ (n := 11) (S := fun W => Own w0 W ((gp, .cells #[.int .u64 a0, .int .u64 a1, .int .u64 a2, .int .u64 a3, .int .i64 a4, .int .i64 a5, .int .u64 b0, .int .u64 b1, .int .u64 b2, .int .u64 b3, .int .i64 b4, .int .i64 b5, .int .u64 c, .bool on, .int .u64 tu, .int .u64 t0, .int .u64 t1, .int .u64 n2, .int .u64 n3, .int .i64 n4, .int .i64 n5] 46 (0, 0)) :: L)) (ds := []) #[false, false, false, false, false, false, false, false, false, false, false] (by kernel_rfl) rfl rfl (Own.drew (HO.out)) (fun hHeld => ?_)
 have HO_ := Aside0.mk HO.out.drew
 clear HO
 have HO := HO_
 clear HO_
 generalize World.drew _ = wr at HO hHeld ⊢
 refine Hp.pu_ 0 21 (Hp.up 11 1) ?_
 refine Hp.pu_ 1 22 (Hp.up 11 2) ?_
 refine Hp.pu_ 2 23 (Hp.up 11 3) ?_
 refine Hp.pu_ 3 24 (Hp.up 11 4) ?_
 refine take_ (i := 4) (N := some 25) (v := .int .u64 a2) (a' := ?_) (Hp.up 11 5) rfl rfl (by kernel_rfl) (fun _ _ _ h => h) (own_yield1 (by rfl) (x := .tmp 24) rfl (by rfl) (.head) Try.underlying22 (by rfl) (by rfl)) hHeld ?_ ?_
 rotate_left
 ·simp only [Act.put, List.setIfInBounds_toArray, List.set_cons_zero, List.set_cons_succ, i64_w, i32_w]
  rfl
 refine Hp.pu_ 5 26 (Hp.up 11 6) ?_
 refine Hp.pu_ 6 27 (Hp.up 11 7) ?_
 refine Hp.pu_ 7 28 (Hp.up 11 8) ?_
 refine Hp.pu_ 8 29 (Hp.up 11 9) ?_
 refine take_ (i := 9) (N := some 30) (v := .int .u64 b3) (a' := ?_) (Hp.up 11 10) rfl rfl (by kernel_rfl) (fun _ _ _ h => h) (own_yield1 (by rfl) (x := .tmp 29) rfl (by rfl) (.head) Try.underlying22 (by rfl) (by rfl)) hHeld ?_ ?_
 rotate_left
 ·simp only [Act.put, List.setIfInBounds_toArray, List.set_cons_zero, List.set_cons_succ, i64_w, i32_w]
  rfl
 refine Hp.pu_ 10 31 (Hp.up 11 11) ?_
 refine done_ (by kernel_rfl) ?_
 clear hHeld
 by_cases c1 : (decide (b3 ≤ a2)) = true
 ·skip
  rw [if_pos c1, if_pos c1] at h
  have cp : (b3 ≤ a2) = True := eq_true (of_decide_eq_true c1)
  rw [c1]
  try go_wp2
  refine start_ (n := 24) (S := fun W => Own w0 W ((gp, .cells #[.int .u64 a0, .int .u64 a1, .int .u64 a2, .int .u64 a3, .int .i64 a4, .int .i64 a5, .int .u64 b0, .int .u64 b1, .int .u64 b2, .int .u64 b3, .int .i64 b4, .int .i64 b5, .int .u64 c, .bool on, .int .u64 tu, .int .u64 t0, .int .u64 t1, .int .u64 n2, .int .u64 n3, .int .i64 n4, .int .i64 n5] 46 (0, 0)) :: L)) (ds := [23]) #[false, false, false, false, false, false, false, false, false, false, false, false, false, false, false, false, false, false, false, false, false, false, false, false] (by kernel_rfl) rfl rfl (Own.drew (HO.out)) (fun hHeld => ?_)
  have HO_ := Aside0.mk HO.out.drew
  clear HO
  have HO := HO_
  clear HO_
  generalize World.drew _ = wr at HO hHeld ⊢
  refine Hp.pu_ 0 32 (Hp.up 24 1) ?_
  refine Hp.pu_ 1 33 (Hp.up 24 2) ?_
  refine Hp.pu_ 2 34 (Hp.up 24 3) ?_
  refine Hp.pu_ 3 35 (Hp.up 24 4) ?_
  refine Hp.pu_ 4 36 (Hp.up 24 5) ?_
  refine take_ (i := 5) (N := some 37) (v := .int .u64 a2) (a' := ?_) (Hp.up 24 6) rfl rfl (by kernel_rfl) (fun _ _ _ h => h) (own_yield1 (by rfl) (x := .tmp 36) rfl (by rfl) (.head) Try.underlying22 (by rfl) (by rfl)) hHeld ?_ ?_
  rotate_left
  ·simp only [Act.put, List.setIfInBounds_toArray, List.set_cons_zero, List.set_cons_succ, i64_w, i32_w]
   rfl
  refine Hp.pu_ 6 38 (Hp.up 24 7) ?_
  refine Hp.pu_ 7 39 (Hp.up 24 8) ?_
  refine Hp.pu_ 8 40 (Hp.up 24 9) ?_
  refine Hp.pu_ 9 41 (Hp.up 24 10) ?_
  refine take_ (i := 10) (N := some 42) (v := .int .u64 b3) (a' := ?_) (Hp.up 24 11) rfl rfl (by kernel_rfl) (fun _ _ _ h => h) (own_yield1 (by rfl) (x := .tmp 41) rfl (by rfl) (.head) Try.underlying22 (by rfl) (by rfl)) hHeld ?_ ?_
  rotate_left
  ·simp only [Act.put, List.setIfInBounds_toArray, List.set_cons_zero, List.set_cons_succ, i64_w, i32_w]
   rfl
  refine Hp.pu_ 11 43 (Hp.up 24 12) ?_
  refine Hp.pu_ 12 44 (Hp.up 24 13) ?_
  refine Hp.pu_ 13 45 (Hp.up 24 14) ?_
  refine Hp.pu_ 14 46 (Hp.up 24 15) ?_
  refine Hp.pu_ 15 47 (Hp.up 24 16) ?_
  refine take_ (i := 16) (N := some 48) (v := .int .u64 a3) (a' := ?_) (Hp.up 24 17) rfl rfl (by kernel_rfl) (fun _ _ _ h => h) (own_yield1 (by rfl) (x := .tmp 47) rfl (by rfl) (.head) Try.underlying22 (by rfl) (by rfl)) hHeld ?_ ?_
  rotate_left
  ·simp only [Act.put, List.setIfInBounds_toArray, List.set_cons_zero, List.set_cons_succ, i64_w, i32_w]
   rfl
  refine Hp.pu_ 17 49 (Hp.up 24 18) ?_
  refine Hp.pu_ 18 50 (Hp.up 24 19) ?_
  refine Hp.pu_ 19 51 (Hp.up 24 20) ?_
  refine Hp.pu_ 20 52 (Hp.up 24 21) ?_
  refine take_ (i := 21) (N := some 53) (v := .int .u64 b2) (a' := ?_) (Hp.up 24 22) rfl rfl (by kernel_rfl) (fun _ _ _ h => h) (own_yield1 (by rfl) (x := .tmp 52) rfl (by rfl) (.head) Try.underlying22 (by rfl) (by rfl)) hHeld ?_ ?_
  rotate_left
  ·simp only [Act.put, List.setIfInBounds_toArray, List.set_cons_zero, List.set_cons_succ, i64_w, i32_w]
   rfl
  refine Hp.pu_ 22 54 (Hp.up 24 23) ?_
  refine last_ (i := 23) (N := some 55) (Hp.up 24 24) rfl rfl (by kernel_rfl) (by decide) (fun K hK => ?_)
  refine goes_ Try.func61 (by kernel_rfl) rfl #[.pointer (some ⟨gp, 0, none⟩), .int .u64 (IntKind.u64.wrap (a2 - b3)), .int .u64 (IntKind.u64.wrap (a3 - b2))] (by rfl) rfl rfl (by (try simp only [List.map_toArray, List.map_cons, List.map_nil]); first | done | rfl) ?_
  refine (xf_unsigned (IntKind.u64.wrap (a2 - b3)) (IntKind.u64.wrap (a3 - b2)) ⟨a0, a1, a2, a3, a4, a5, b0, b1, b2, b3, b4, b5, c, on, tu, t0, t1, n2, n3, n4, n5⟩ gp w0 _ L HO.out).mono ?_
  rintro e wx ⟨rfl, hO_⟩
  refine ⟨_, rfl, ?_⟩
  have hO_ : Own w0 wx ((gp, .cells #[.int .u64 a0, .int .u64 a1, .int .u64 a2, .int .u64 a3, .int .i64 a4, .int .i64 a5, .int .u64 b0, .int .u64 b1, .int .u64 b2, .int .u64 b3, .int .i64 b4, .int .i64 b5, .int .u64 c, .bool on, .int .u64 tu, .int .u64 t0, .int .u64 t1, .int .u64 (IntKind.u64.wrap (a2 - b3)), .int .u64 (IntKind.u64.wrap (a3 - b2)), .int .i64 n4, .int .i64 n5] 46 (0, 0)) :: L) := hO_; clear HO; have HO := Aside0.mk hO_; clear hO_
  refine hK.out _ _ ?_
  clear hK K
  refine norm_ (a' := ?_) ?_ ?_
  rotate_left
  ·show Act.put _ (some 55) _ = _
   simp only [Act.put, List.setIfInBounds_toArray, List.set_cons_zero, List.set_cons_succ, i64_w, i32_w]
   rfl
  refine done_ (by kernel_rfl) ?_
  clear hHeld
  try go_wp2
  refine start_ (n := 16) (S := fun W => Own w0 W ((gp, .cells #[.int .u64 a0, .int .u64 a1, .int .u64 a2, .int .u64 a3, .int .i64 a4, .int .i64 a5, .int .u64 b0, .int .u64 b1, .int .u64 b2, .int .u64 b3, .int .i64 b4, .int .i64 b5, .int .u64 c, .bool on, .int .u64 tu, .int .u64 t0, .int .u64 t1, .int .u64 (IntKind.u64.wrap (a2 - b3)), .int .u64 (IntKind.u64.wrap (a3 - b2)), .int .i64 n4, .int .i64 n5] 46 (0, 0)) :: L)) (ds := []) #[false, false, false, false, false, false, false, false, false, false, false, false, false, false, false, false] (by kernel_rfl) rfl rfl (Own.drew (HO.out)) (fun hHeld => ?_)
  have HO_ := Aside0.mk HO.out.drew
  clear HO
  have HO := HO_
  clear HO_
  generalize World.drew _ = wr at HO hHeld ⊢
  refine Hp.pu_ 0 57 (Hp.up 16 1) ?_
  refine Hp.pu_ 1 58 (Hp.up 16 2) ?_
  refine Hp.pu_ 2 59 (Hp.up 16 3) ?_
  refine Hp.pu_ 3 60 (Hp.up 16 4) ?_
  refine take_ (i := 4) (N := some 61) (v := .int .i64 a4) (a' := ?_) (Hp.up 16 5) rfl rfl (by kernel_rfl) (fun _ _ _ h => h) (own_yield1 (by rfl) (x := .tmp 60) rfl (by rfl) (.head) Try.underlying2 (by rfl) (by rfl)) hHeld ?_ ?_
  rotate_left
  ·simp only [Act.put, List.setIfInBounds_toArray, List.set_cons_zero, List.set_cons_succ, i64_w, i32_w]
   rfl
  refine Hp.pu_ 5 62 (Hp.up 16 6) ?_
  refine Hp.pu_ 6 63 (Hp.up 16 7) ?_
  refine Hp.pu_ 7 64 (Hp.up 16 8) ?_
  refine Hp.pu_ 8 65 (Hp.up 16 9) ?_
  refine take_ (i := 9) (N := some 66) (v := .int .i64 b5) (a' := ?_) (Hp.up 16 10) rfl rfl (by kernel_rfl) (fun _ _ _ h => h) (own_yield1 (by rfl) (x := .tmp 65) rfl (by rfl) (.head) Try.underlying2 (by rfl) (by rfl)) hHeld ?_ ?_
  rotate_left
  ·simp only [Act.put, List.setIfInBounds_toArray, List.set_cons_zero, List.set_cons_succ, i64_w, i32_w]
   rfl
  refine one_ (i := 10) (N := some 67) (Hp.up 16 11) rfl rfl (by kernel_rfl) (by decide) (fun K hK => ?_)
  refine goes_ Try.func65 (by kernel_rfl) rfl #[.int .i64 a4, .int .i64 b5] (by rfl) rfl rfl (by (try simp only [List.map_toArray, List.map_cons, List.map_nil]); first | done | rfl) ?_
  refine (xfer_less.calls a4 b5 l0 l1 _ HS1.out).mono ?_
  rintro e wx ⟨rfl, hd_⟩
  refine ⟨_, rfl, ?_⟩
  have hO_ := HO.out.below (Drawn0.below hd_)
  clear hd_
  clear HO; have HO := Aside0.mk hO_; clear hO_
  refine hK.out _ _ (HO.out) (fun hHeld => ?_)
  clear hK K
  refine norm_ (a' := ?_) ?_ ?_
  rotate_left
  ·show Act.put _ (some 67) _ = _
   simp only [Act.put, List.setIfInBounds_toArray, List.set_cons_zero, List.set_cons_succ, i64_w, i32_w]
   rfl
  refine Hp.pu_ 11 56 (Hp.up 16 12) ?_
  refine Hp.pu_ 12 68 (Hp.up 16 13) ?_
  refine Hp.pu_ 13 69 (Hp.up 16 14) ?_
  refine Hp.pu_ 14 2 (Hp.up 16 15) ?_
  refine Hp.pu_ 15 3 (Hp.up 16 16) ?_
  refine done_ (by kernel_rfl) ?_
  clear hHeld
  try go_wp2
  refine start_ (n := 16) (S := fun W => Own w0 W ((gp, .cells #[.int .u64 a0, .int .u64 a1, .int .u64 a2, .int .u64 a3, .int .i64 a4, .int .i64 a5, .int .u64 b0, .int .u64 b1, .int .u64 b2, .int .u64 b3, .int .i64 b4, .int .i64 b5, .int .u64 c, .bool on, .int .u64 tu, .int .u64 t0, .int .u64 t1, .int .u64 (IntKind.u64.wrap (a2 - b3)), .int .u64 (IntKind.u64.wrap (a3 - b2)), .int .i64 n4, .int .i64 n5] 46 (0, 0)) :: L)) (ds := []) #[false, false, false, false, false, false, false, false, false, false, false, false, false, false, false, false] (by kernel_rfl) rfl rfl (Own.drew (HO.out)) (fun hHeld => ?_)
  have HO_ := Aside0.mk HO.out.drew
  clear HO
  have HO := HO_
  clear HO_
  generalize World.drew _ = wr at HO hHeld ⊢
  refine Hp.pu_ 0 71 (Hp.up 16 1) ?_
  refine Hp.pu_ 1 72 (Hp.up 16 2) ?_
  refine Hp.pu_ 2 73 (Hp.up 16 3) ?_
  refine Hp.pu_ 3 74 (Hp.up 16 4) ?_
  refine take_ (i := 4) (N := some 75) (v := .int .i64 a5) (a' := ?_) (Hp.up 16 5) rfl rfl (by kernel_rfl) (fun _ _ _ h => h) (own_yield1 (by rfl) (x := .tmp 74) rfl (by rfl) (.head) Try.underlying2 (by rfl) (by rfl)) hHeld ?_ ?_
  rotate_left
  ·simp only [Act.put, List.setIfInBounds_toArray, List.set_cons_zero, List.set_cons_succ, i64_w, i32_w]
   rfl
  refine Hp.pu_ 5 76 (Hp.up 16 6) ?_
  refine Hp.pu_ 6 77 (Hp.up 16 7) ?_
  refine Hp.pu_ 7 78 (Hp.up 16 8) ?_
  refine Hp.pu_ 8 79 (Hp.up 16 9) ?_
  refine take_ (i := 9) (N := some 80) (v := .int .i64 b4) (a' := ?_) (Hp.up 16 10) rfl rfl (by kernel_rfl) (fun _ _ _ h => h) (own_yield1 (by rfl) (x := .tmp 79) rfl (by rfl) (.head) Try.underlying2 (by rfl) (by rfl)) hHeld ?_ ?_
  rotate_left
  ·simp only [Act.put, List.setIfInBounds_toArray, List.set_cons_zero, List.set_cons_succ, i64_w, i32_w]
   rfl
  refine one_ (i := 10) (N := some 81) (Hp.up 16 11) rfl rfl (by kernel_rfl) (by decide) (fun K hK => ?_)
  refine goes_ Try.func65 (by kernel_rfl) rfl #[.int .i64 a5, .int .i64 b4] (by rfl) rfl rfl (by (try simp only [List.map_toArray, List.map_cons, List.map_nil]); first | done | rfl) ?_
  refine (xfer_less.calls a5 b4 m0 m1 _ HS2.out).mono ?_
  rintro e wx ⟨rfl, hd_⟩
  refine ⟨_, rfl, ?_⟩
  have hO_ := HO.out.below (Drawn0.below hd_)
  clear hd_
  clear HO; have HO := Aside0.mk hO_; clear hO_
  refine hK.out _ _ (HO.out) (fun hHeld => ?_)
  clear hK K
  refine norm_ (a' := ?_) ?_ ?_
  rotate_left
  ·show Act.put _ (some 81) _ = _
   simp only [Act.put, List.setIfInBounds_toArray, List.set_cons_zero, List.set_cons_succ, i64_w, i32_w]
   rfl
  refine Hp.pu_ 11 70 (Hp.up 16 12) ?_
  refine Hp.pu_ 12 82 (Hp.up 16 13) ?_
  refine Hp.pu_ 13 83 (Hp.up 16 14) ?_
  refine Hp.pu_ 14 4 (Hp.up 16 15) ?_
  refine Hp.pu_ 15 5 (Hp.up 16 16) ?_
  refine done_ (by kernel_rfl) ?_
  clear hHeld
  cases l1 with
  | false =>
   simp only [Bool.false_and, Bool.and_false, Bool.and_self, Bool.false_eq_true, if_true, if_false] at h
   obtain rfl := Option.some.inj h
   clear h
   try go_wp2
   (first | go_end0 | refine bodyPost_ret (results_none rfl _ _ _) rfl ?_)
   exact ⟨rfl, HO.out⟩
  | true =>
   cases m1 with
   | false =>
    simp only [Bool.false_and, Bool.and_false, Bool.and_self, Bool.false_eq_true, if_true, if_false] at h
    obtain rfl := Option.some.inj h
    clear h
    try go_wp2
    (first | go_end0 | refine bodyPost_ret (results_none rfl _ _ _) rfl ?_)
    exact ⟨rfl, HO.out⟩
   | true =>
    simp only [Bool.false_and, Bool.and_false, Bool.and_self, Bool.false_eq_true, if_true, if_false] at h
    obtain rfl := Option.some.inj h
    clear h
    go_wp2_with (first | ((with_reducible refine gate_callee (f := 63) rfl ?_); (with_reducible refine gate_dst (N := 91) rfl ?_); refine goesL_ (some 91) rfl rfl Try.func63 (by kernel_rfl) rfl #[.pointer (some ⟨gp, 0, none⟩), .int .i64 l0, .int .i64 m0] rfl (by (try simp only [List.map_toArray, List.map_cons, List.map_nil]); first | done | rfl) ?_; (with_reducible refine (xf_signed (l0) (m0) ⟨a0, a1, a2, a3, a4, a5, b0, b1, b2, b3, b4, b5, c, on, tu, t0, t1, IntKind.u64.wrap (a2 - b3), IntKind.u64.wrap (a3 - b2), n4, n5⟩ gp w0 _ L HO.out).mono ?_); rintro e wx ⟨rfl, hO_⟩; refine ⟨_, rfl, ?_⟩; have hO_ : Own w0 wx ((gp, .cells #[.int .u64 a0, .int .u64 a1, .int .u64 a2, .int .u64 a3, .int .i64 a4, .int .i64 a5, .int .u64 b0, .int .u64 b1, .int .u64 b2, .int .u64 b3, .int .i64 b4, .int .i64 b5, .int .u64 c, .bool on, .int .u64 tu, .int .u64 t0, .int .u64 t1, .int .u64 (IntKind.u64.wrap (a2 - b3)), .int .u64 (IntKind.u64.wrap (a3 - b2)), .int .i64 l0, .int .i64 m0] 46 (0, 0)) :: L) := hO_; clear HO; have HO := Aside0.mk hO_; clear hO_))
    (first | go_end0 | refine bodyPost_ret (results_none rfl _ _ _) rfl ?_)
    exact ⟨rfl, HO.out⟩
 ·skip
  rw [if_neg c1, if_neg c1] at h
  have c1 : (decide (b3 ≤ a2)) = false := by simpa using c1
  have cp : (b3 ≤ a2) = False := eq_false (of_decide_eq_false c1)
  rw [c1]
  try go_wp2
  refine start_ (n := 16) (S := fun W => Own w0 W ((gp, .cells #[.int .u64 a0, .int .u64 a1, .int .u64 a2, .int .u64 a3, .int .i64 a4, .int .i64 a5, .int .u64 b0, .int .u64 b1, .int .u64 b2, .int .u64 b3, .int .i64 b4, .int .i64 b5, .int .u64 c, .bool on, .int .u64 tu, .int .u64 t0, .int .u64 t1, .int .u64 n2, .int .u64 n3, .int .i64 n4, .int .i64 n5] 46 (0, 0)) :: L)) (ds := []) #[false, false, false, false, false, false, false, false, false, false, false, false, false, false, false, false] (by kernel_rfl) rfl rfl (Own.drew (HO.out)) (fun hHeld => ?_)
  have HO_ := Aside0.mk HO.out.drew
  clear HO
  have HO := HO_
  clear HO_
  generalize World.drew _ = wr at HO hHeld ⊢
  refine Hp.pu_ 0 57 (Hp.up 16 1) ?_
  refine Hp.pu_ 1 58 (Hp.up 16 2) ?_
  refine Hp.pu_ 2 59 (Hp.up 16 3) ?_
  refine Hp.pu_ 3 60 (Hp.up 16 4) ?_
  refine take_ (i := 4) (N := some 61) (v := .int .i64 a4) (a' := ?_) (Hp.up 16 5) rfl rfl (by kernel_rfl) (fun _ _ _ h => h) (own_yield1 (by rfl) (x := .tmp 60) rfl (by rfl) (.head) Try.underlying2 (by rfl) (by rfl)) hHeld ?_ ?_
  rotate_left
  ·simp only [Act.put, List.setIfInBounds_toArray, List.set_cons_zero, List.set_cons_succ, i64_w, i32_w]
   rfl
  refine Hp.pu_ 5 62 (Hp.up 16 6) ?_
  refine Hp.pu_ 6 63 (Hp.up 16 7) ?_
  refine Hp.pu_ 7 64 (Hp.up 16 8) ?_
  refine Hp.pu_ 8 65 (Hp.up 16 9) ?_
  refine take_ (i := 9) (N := some 66) (v := .int .i64 b5) (a' := ?_) (Hp.up 16 10) rfl rfl (by kernel_rfl) (fun _ _ _ h => h) (own_yield1 (by rfl) (x := .tmp 65) rfl (by rfl) (.head) Try.underlying2 (by rfl) (by rfl)) hHeld ?_ ?_
  rotate_left
  ·simp only [Act.put, List.setIfInBounds_toArray, List.set_cons_zero, List.set_cons_succ, i64_w, i32_w]
   rfl
  refine one_ (i := 10) (N := some 67) (Hp.up 16 11) rfl rfl (by kernel_rfl) (by decide) (fun K hK => ?_)
  refine goes_ Try.func65 (by kernel_rfl) rfl #[.int .i64 a4, .int .i64 b5] (by rfl) rfl rfl (by (try simp only [List.map_toArray, List.map_cons, List.map_nil]); first | done | rfl) ?_
  refine (xfer_less.calls a4 b5 l0 l1 _ HS1.out).mono ?_
  rintro e wx ⟨rfl, hd_⟩
  refine ⟨_, rfl, ?_⟩
  have hO_ := HO.out.below (Drawn0.below hd_)
  clear hd_
  clear HO; have HO := Aside0.mk hO_; clear hO_
  refine hK.out _ _ (HO.out) (fun hHeld => ?_)
  clear hK K
  refine norm_ (a' := ?_) ?_ ?_
  rotate_left
  ·show Act.put _ (some 67) _ = _
   simp only [Act.put, List.setIfInBounds_toArray, List.set_cons_zero, List.set_cons_succ, i64_w, i32_w]
   rfl
  refine Hp.pu_ 11 56 (Hp.up 16 12) ?_
  refine Hp.pu_ 12 68 (Hp.up 16 13) ?_
  refine Hp.pu_ 13 69 (Hp.up 16 14) ?_
  refine Hp.pu_ 14 2 (Hp.up 16 15) ?_
  refine Hp.pu_ 15 3 (Hp.up 16 16) ?_
  refine done_ (by kernel_rfl) ?_
  clear hHeld
  try go_wp2
  refine start_ (n := 16) (S := fun W => Own w0 W ((gp, .cells #[.int .u64 a0, .int .u64 a1, .int .u64 a2, .int .u64 a3, .int .i64 a4, .int .i64 a5, .int .u64 b0, .int .u64 b1, .int .u64 b2, .int .u64 b3, .int .i64 b4, .int .i64 b5, .int .u64 c, .bool on, .int .u64 tu, .int .u64 t0, .int .u64 t1, .int .u64 n2, .int .u64 n3, .int .i64 n4, .int .i64 n5] 46 (0, 0)) :: L)) (ds := []) #[false, false, false, false, false, false, false, false, false, false, false, false, false, false, false, false] (by kernel_rfl) rfl rfl (Own.drew (HO.out)) (fun hHeld => ?_)
  have HO_ := Aside0.mk HO.out.drew
  clear HO
  have HO := HO_
  clear HO_
  generalize World.drew _ = wr at HO hHeld ⊢
  refine Hp.pu_ 0 71 (Hp.up 16 1) ?_
  refine Hp.pu_ 1 72 (Hp.up 16 2) ?_
  refine Hp.pu_ 2 73 (Hp.up 16 3) ?_
  refine Hp.pu_ 3 74 (Hp.up 16 4) ?_
  refine take_ (i := 4) (N := some 75) (v := .int .i64 a5) (a' := ?_) (Hp.up 16 5) rfl rfl (by kernel_rfl) (fun _ _ _ h => h) (own_yield1 (by rfl) (x := .tmp 74) rfl (by rfl) (.head) Try.underlying2 (by rfl) (by rfl)) hHeld ?_ ?_
  rotate_left
  ·simp only [Act.put, List.setIfInBounds_toArray, List.set_cons_zero, List.set_cons_succ, i64_w, i32_w]
   rfl
  refine Hp.pu_ 5 76 (Hp.up 16 6) ?_
  refine Hp.pu_ 6 77 (Hp.up 16 7) ?_
  refine Hp.pu_ 7 78 (Hp.up 16 8) ?_
  refine Hp.pu_ 8 79 (Hp.up 16 9) ?_
  refine take_ (i := 9) (N := some 80) (v := .int .i64 b4) (a' := ?_) (Hp.up 16 10) rfl rfl (by kernel_rfl) (fun _ _ _ h => h) (own_yield1 (by rfl) (x := .tmp 79) rfl (by rfl) (.head) Try.underlying2 (by rfl) (by rfl)) hHeld ?_ ?_
  rotate_left
  ·simp only [Act.put, List.setIfInBounds_toArray, List.set_cons_zero, List.set_cons_succ, i64_w, i32_w]
   rfl
  refine one_ (i := 10) (N := some 81) (Hp.up 16 11) rfl rfl (by kernel_rfl) (by decide) (fun K hK => ?_)
  refine goes_ Try.func65 (by kernel_rfl) rfl #[.int .i64 a5, .int .i64 b4] (by rfl) rfl rfl (by (try simp only [List.map_toArray, List.map_cons, List.map_nil]); first | done | rfl) ?_
  refine (xfer_less.calls a5 b4 m0 m1 _ HS2.out).mono ?_
  rintro e wx ⟨rfl, hd_⟩
  refine ⟨_, rfl, ?_⟩
  have hO_ := HO.out.below (Drawn0.below hd_)
  clear hd_
  clear HO; have HO := Aside0.mk hO_; clear hO_
  refine hK.out _ _ (HO.out) (fun hHeld => ?_)
  clear hK K
  refine norm_ (a' := ?_) ?_ ?_
  rotate_left
  ·show Act.put _ (some 81) _ = _
   simp only [Act.put, List.setIfInBounds_toArray, List.set_cons_zero, List.set_cons_succ, i64_w, i32_w]
   rfl
  refine Hp.pu_ 11 70 (Hp.up 16 12) ?_
  refine Hp.pu_ 12 82 (Hp.up 16 13) ?_
  refine Hp.pu_ 13 83 (Hp.up 16 14) ?_
  refine Hp.pu_ 14 4 (Hp.up 16 15) ?_
  refine Hp.pu_ 15 5 (Hp.up 16 16) ?_
  refine done_ (by kernel_rfl) ?_
  clear hHeld
  cases l1 with
  | false =>
   simp only [Bool.false_and, Bool.and_false, Bool.and_self, Bool.false_eq_true, if_true, if_false] at h
   obtain rfl := Option.some.inj h
   clear h
   try go_wp2
   (first | go_end0 | refine bodyPost_ret (results_none rfl _ _ _) rfl ?_)
   exact ⟨rfl, HO.out⟩
  | true =>
   cases m1 with
   | false =>
    simp only [Bool.false_and, Bool.and_false, Bool.and_self, Bool.false_eq_true, if_true, if_false] at h
    obtain rfl := Option.some.inj h
    clear h
    try go_wp2
    (first | go_end0 | refine bodyPost_ret (results_none rfl _ _ _) rfl ?_)
    exact ⟨rfl, HO.out⟩
   | true =>
    simp only [Bool.false_and, Bool.and_false, Bool.and_self, Bool.false_eq_true, if_true, if_false] at h
    obtain rfl := Option.some.inj h
    clear h
    go_wp2_with (first | ((with_reducible refine gate_callee (f := 63) rfl ?_); (with_reducible refine gate_dst (N := 91) rfl ?_); refine goesL_ (some 91) rfl rfl Try.func63 (by kernel_rfl) rfl #[.pointer (some ⟨gp, 0, none⟩), .int .i64 l0, .int .i64 m0] rfl (by (try simp only [List.map_toArray, List.map_cons, List.map_nil]); first | done | rfl) ?_; (with_reducible refine (xf_signed (l0) (m0) ⟨a0, a1, a2, a3, a4, a5, b0, b1, b2, b3, b4, b5, c, on, tu, t0, t1, n2, n3, n4, n5⟩ gp w0 _ L HO.out).mono ?_); rintro e wx ⟨rfl, hO_⟩; refine ⟨_, rfl, ?_⟩; have hO_ : Own w0 wx ((gp, .cells #[.int .u64 a0, .int .u64 a1, .int .u64 a2, .int .u64 a3, .int .i64 a4, .int .i64 a5, .int .u64 b0, .int .u64 b1, .int .u64 b2, .int .u64 b3, .int .i64 b4, .int .i64 b5, .int .u64 c, .bool on, .int .u64 tu, .int .u64 t0, .int .u64 t1, .int .u64 n2, .int .u64 n3, .int .i64 l0, .int .i64 m0] 46 (0, 0)) :: L) := hO_; clear HO; have HO := Aside0.mk hO_; clear hO_))
    (first | go_end0 | refine bodyPost_ret (results_none rfl _ _ _) rfl ?_)
    exact ⟨rfl, HO.out⟩
def xf_mul (p : XfP) : Option XfP := match p with
 | ⟨a0, a1, a2, a3, a4, a5, b0, b1, b2, b3, b4, b5, c, on, tu, n0, n1, n2, n3, n4, n5⟩ => if (decide (a3 ≤ 4294967295) && decide (b3 ≤ 4294967295)) = true then some ⟨a0, a1, a2, a3, a4, a5, b0, b1, b2, b3, b4, b5, c, on, tu, n0, n1, IntKind.u64.wrap (a2 * b2), IntKind.u64.wrap (a3 * b3), n4, n5⟩ else some ⟨a0, a1, a2, a3, a4, a5, b0, b1, b2, b3, b4, b5, c, on, tu, n0, n1, n2, n3, n4, n5⟩
set_option maxHeartbeats 8000000 in
set_option maxRecDepth 100000 in
theorem xf_mul_ok : XfOk 29 xf_mul := by
 intro p q gp w0 w L h hO
 obtain ⟨a0, a1, a2, a3, a4, a5, b0, b1, b2, b3, b4, b5, c, on, tu, n0, n1, n2, n3, n4, n5⟩ := p
 have HO : Aside0 (Own w0 w ((gp, .cells #[.int .u64 a0, .int .u64 a1, .int .u64 a2, .int .u64 a3, .int .i64 a4, .int .i64 a5, .int .u64 b0, .int .u64 b1, .int .u64 b2, .int .u64 b3, .int .i64 b4, .int .i64 b5, .int .u64 c, .bool on, .int .u64 tu, .int .u64 n0, .int .u64 n1, .int .u64 n2, .int .u64 n3, .int .i64 n4, .int .i64 n5] 46 (0, 0)) :: L)) := ⟨hO⟩
 clear hO
 have hup := Try.underlying46
 have hun := Try.underlying26
 have hut := Try.underlying24
 have huu := Try.underlying22
 have hui := Try.underlying2
 have hub := Try.underlying4
 unfold xf_mul at h
 dsimp only at h
 by_cases c1 : (decide (a3 ≤ 4294967295)) = true
 ·skip
  have hk_a : World.cell? _ ⟨gp, 3, none⟩ = some (.int .u64 a3) := (HO.out.cell .head 3).trans rfl
  have hk_b : World.cell? _ ⟨gp, 9, none⟩ = some (.int .u64 b3) := (HO.out.cell .head 9).trans rfl
  by_cases c2 : (decide (b3 ≤ 4294967295)) = true
  ·skip
   rw [c1, c2] at h
   simp only [Bool.false_and, Bool.and_false, Bool.and_self, Bool.false_eq_true, if_true, if_false] at h
   obtain rfl := Option.some.inj h
   clear h
   go_enter Try.func29, Try.ntmps29
   try go_wp2
   refine start_ (n := 24) (S := fun W => Own w0 W ((gp, .cells #[.int .u64 a0, .int .u64 a1, .int .u64 a2, .int .u64 a3, .int .i64 a4, .int .i64 a5, .int .u64 b0, .int .u64 b1, .int .u64 b2, .int .u64 b3, .int .i64 b4, .int .i64 b5, .int .u64 c, .bool on, .int .u64 tu, .int .u64 n0, .int .u64 n1, .int .u64 n2, .int .u64 n3, .int .i64 n4, .int .i64 n5] 46 (0, 0)) :: L)) (ds := [23]) #[false, false, false, false, false, false, false, false, false, false, false, false, false, false, false, false, false, false, false, false, false, false, false, false] (by kernel_rfl) rfl rfl (Own.drew (HO.out)) (fun hHeld => ?_)
   have HO_ := Aside0.mk HO.out.drew
   clear HO
   have HO := HO_
   clear HO_
   generalize World.drew _ = wr at HO hHeld ⊢
   refine Hp.pu_ 0 16 (Hp.up 24 1) ?_
   refine Hp.pu_ 1 17 (Hp.up 24 2) ?_
   refine Hp.pu_ 2 18 (Hp.up 24 3) ?_
   refine Hp.pu_ 3 19 (Hp.up 24 4) ?_
   refine Hp.pu_ 4 20 (Hp.up 24 5) ?_
   refine take_ (i := 5) (N := some 21) (v := .int .u64 a2) (a' := ?_) (Hp.up 24 6) rfl rfl (by kernel_rfl) (fun _ _ _ h => h) (own_yield1 (by rfl) (x := .tmp 20) rfl (by rfl) (.head) Try.underlying22 (by rfl) (by rfl)) hHeld ?_ ?_
   rotate_left
   ·simp only [Act.put, List.setIfInBounds_toArray, List.set_cons_zero, List.set_cons_succ, i64_w, i32_w]
    rfl
   refine Hp.pu_ 6 22 (Hp.up 24 7) ?_
   refine Hp.pu_ 7 23 (Hp.up 24 8) ?_
   refine Hp.pu_ 8 24 (Hp.up 24 9) ?_
   refine Hp.pu_ 9 25 (Hp.up 24 10) ?_
   refine take_ (i := 10) (N := some 26) (v := .int .u64 b2) (a' := ?_) (Hp.up 24 11) rfl rfl (by kernel_rfl) (fun _ _ _ h => h) (own_yield1 (by rfl) (x := .tmp 25) rfl (by rfl) (.head) Try.underlying22 (by rfl) (by rfl)) hHeld ?_ ?_
   rotate_left
   ·simp only [Act.put, List.setIfInBounds_toArray, List.set_cons_zero, List.set_cons_succ, i64_w, i32_w]
    rfl
   refine Hp.pu_ 11 27 (Hp.up 24 12) ?_
   refine Hp.pu_ 12 28 (Hp.up 24 13) ?_
   refine Hp.pu_ 13 29 (Hp.up 24 14) ?_
   refine Hp.pu_ 14 30 (Hp.up 24 15) ?_
   refine Hp.pu_ 15 31 (Hp.up 24 16) ?_
   refine take_ (i := 16) (N := some 32) (v := .int .u64 a3) (a' := ?_) (Hp.up 24 17) rfl rfl (by kernel_rfl) (fun _ _ _ h => h) (own_yield1 (by rfl) (x := .tmp 31) rfl (by rfl) (.head) Try.underlying22 (by rfl) (by rfl)) hHeld ?_ ?_
   rotate_left
   ·simp only [Act.put, List.setIfInBounds_toArray, List.set_cons_zero, List.set_cons_succ, i64_w, i32_w]
    rfl
   refine Hp.pu_ 17 33 (Hp.up 24 18) ?_
   refine Hp.pu_ 18 34 (Hp.up 24 19) ?_
   refine Hp.pu_ 19 35 (Hp.up 24 20) ?_
   refine Hp.pu_ 20 36 (Hp.up 24 21) ?_
   refine take_ (i := 21) (N := some 37) (v := .int .u64 b3) (a' := ?_) (Hp.up 24 22) rfl rfl (by kernel_rfl) (fun _ _ _ h => h) (own_yield1 (by rfl) (x := .tmp 36) rfl (by rfl) (.head) Try.underlying22 (by rfl) (by rfl)) hHeld ?_ ?_
   rotate_left
   ·simp only [Act.put, List.setIfInBounds_toArray, List.set_cons_zero, List.set_cons_succ, i64_w, i32_w]
    rfl
   refine Hp.pu_ 22 38 (Hp.up 24 23) ?_
   refine last_ (i := 23) (N := some 39) (Hp.up 24 24) rfl rfl (by kernel_rfl) (by decide) (fun K hK => ?_)
   refine goes_ Try.func61 (by kernel_rfl) rfl #[.pointer (some ⟨gp, 0, none⟩), .int .u64 (IntKind.u64.wrap (a2 * b2)), .int .u64 (IntKind.u64.wrap (a3 * b3))] (by rfl) rfl rfl (by (try simp only [List.map_toArray, List.map_cons, List.map_nil]); first | done | rfl) ?_
   refine (xf_unsigned (IntKind.u64.wrap (a2 * b2)) (IntKind.u64.wrap (a3 * b3)) ⟨a0, a1, a2, a3, a4, a5, b0, b1, b2, b3, b4, b5, c, on, tu, n0, n1, n2, n3, n4, n5⟩ gp w0 _ L HO.out).mono ?_
   rintro e wx ⟨rfl, hO_⟩
   refine ⟨_, rfl, ?_⟩
   have hO_ : Own w0 wx ((gp, .cells #[.int .u64 a0, .int .u64 a1, .int .u64 a2, .int .u64 a3, .int .i64 a4, .int .i64 a5, .int .u64 b0, .int .u64 b1, .int .u64 b2, .int .u64 b3, .int .i64 b4, .int .i64 b5, .int .u64 c, .bool on, .int .u64 tu, .int .u64 n0, .int .u64 n1, .int .u64 (IntKind.u64.wrap (a2 * b2)), .int .u64 (IntKind.u64.wrap (a3 * b3)), .int .i64 n4, .int .i64 n5] 46 (0, 0)) :: L) := hO_; clear HO; have HO := Aside0.mk hO_; clear hO_
   refine hK.out _ _ ?_
   clear hK K
   refine norm_ (a' := ?_) ?_ ?_
   rotate_left
   ·show Act.put _ (some 39) _ = _
    simp only [Act.put, List.setIfInBounds_toArray, List.set_cons_zero, List.set_cons_succ, i64_w, i32_w]
    rfl
   refine done_ (by kernel_rfl) ?_
   clear hHeld
   (first | go_end0 | refine bodyPost_ret (results_none rfl _ _ _) rfl ?_)
   exact ⟨rfl, HO.out⟩
  ·skip
   have c2 : (decide (b3 ≤ 4294967295)) = false := by simpa using c2
   rw [c1, c2] at h
   simp only [Bool.false_and, Bool.and_false, Bool.and_self, Bool.false_eq_true, if_true, if_false] at h
   obtain rfl := Option.some.inj h
   clear h
   go_enter Try.func29, Try.ntmps29
   try go_wp2
   (first | go_end0 | refine bodyPost_ret (results_none rfl _ _ _) rfl ?_)
   exact ⟨rfl, HO.out⟩
 ·skip
  have hk_a : World.cell? _ ⟨gp, 3, none⟩ = some (.int .u64 a3) := (HO.out.cell .head 3).trans rfl
  have hk_b : World.cell? _ ⟨gp, 9, none⟩ = some (.int .u64 b3) := (HO.out.cell .head 9).trans rfl
  have c1 : (decide (a3 ≤ 4294967295)) = false := by simpa using c1
  rw [c1] at h
  simp only [Bool.false_and, Bool.and_false, Bool.and_self, Bool.false_eq_true, if_true, if_false] at h
  obtain rfl := Option.some.inj h
  clear h
  go_enter Try.func29, Try.ntmps29
  try go_wp2
  (first | go_end0 | refine bodyPost_ret (results_none rfl _ _ _) rfl ?_)
  exact ⟨rfl, HO.out⟩
def xf_and (p : XfP) : Option XfP := match p with
 | ⟨a0, a1, a2, a3, a4, a5, b0, b1, b2, b3, b4, b5, c, on, tu, n0, n1, n2, n3, n4, n5⟩ => (tnum_And.f a0 a1 b0 b1).bind fun t => some ⟨a0, a1, a2, a3, a4, a5, b0, b1, b2, b3, b4, b5, c, on, tu, t.1, t.2, 0, mn a3 b3, n4, n5⟩
set_option maxHeartbeats 8000000 in
set_option maxRecDepth 100000 in
theorem xf_and_ok : XfOk 32 xf_and := by
 intro p q gp w0 w L h hO
 obtain ⟨a0, a1, a2, a3, a4, a5, b0, b1, b2, b3, b4, b5, c, on, tu, n0, n1, n2, n3, n4, n5⟩ := p
 have HO : Aside0 (Own w0 w ((gp, .cells #[.int .u64 a0, .int .u64 a1, .int .u64 a2, .int .u64 a3, .int .i64 a4, .int .i64 a5, .int .u64 b0, .int .u64 b1, .int .u64 b2, .int .u64 b3, .int .i64 b4, .int .i64 b5, .int .u64 c, .bool on, .int .u64 tu, .int .u64 n0, .int .u64 n1, .int .u64 n2, .int .u64 n3, .int .i64 n4, .int .i64 n5] 46 (0, 0)) :: L)) := ⟨hO⟩
 clear hO
 have hup := Try.underlying46
 have hun := Try.underlying26
 have hut := Try.underlying24
 have huu := Try.underlying22
 have hui := Try.underlying2
 have hub := Try.underlying4
 unfold xf_and at h
 dsimp only at h
 obtain ⟨⟨t0, t1⟩, h0, h_⟩ := Option.bind_eq_some_iff.mp h
 clear h
 have h := h_
 clear h_
 have HT : Aside0 (tnum_And.f a0 a1 b0 b1 = some (t0, t1)) := ⟨h0⟩
 clear h0
 dsimp only at h
 obtain rfl := Option.some.inj h
 clear h
 go_enter Try.func32, Try.ntmps32
 try go_wp2
 refine start_ (n := 16) (S := fun W => Own w0 W ((gp, .cells #[.int .u64 a0, .int .u64 a1, .int .u64 a2, .int .u64 a3, .int .i64 a4, .int .i64 a5, .int .u64 b0, .int .u64 b1, .int .u64 b2, .int .u64 b3, .int .i64 b4, .int .i64 b5, .int .u64 c, .bool on, .int .u64 tu, .int .u64 n0, .int .u64 n1, .int .u64 n2, .int .u64 n3, .int .i64 n4, .int .i64 n5] 46 (0, 0)) :: L)) (ds := [15]) #[false, false, false, false, false, false, false, false, false, false, false, false, false, false, false, false] (by kernel_rfl) rfl rfl (Own.drew (HO.out)) (fun hHeld => ?_)
 have HO_ := Aside0.mk HO.out.drew
 clear HO
 have HO := HO_
 clear HO_
 generalize World.drew _ = wr at HO hHeld ⊢
 refine Hp.pu_ 0 2 (Hp.up 16 1) ?_
 refine Hp.pu_ 1 3 (Hp.up 16 2) ?_
 refine Hp.pu_ 2 4 (Hp.up 16 3) ?_
 refine Hp.pu_ 3 5 (Hp.up 16 4) ?_
 refine Hp.pu_ 4 6 (Hp.up 16 5) ?_
 refine take_ (i := 5) (N := some 7) (v := .agg #[.int .u64 a0, .int .u64 a1]) (a' := ?_) (Hp.up 16 6) rfl rfl (by kernel_rfl) (fun _ _ _ h => h) (own_yieldN (by rfl) (x := .tmp 6) rfl (by rfl) (.head) (vs := [.int .u64 a0, .int .u64 a1]) (by rfl) Try.underlying24 (by rfl) (by kernel_rfl) rfl) hHeld ?_ ?_
 rotate_left
 ·simp only [Act.put, List.setIfInBounds_toArray, List.set_cons_zero, List.set_cons_succ, i64_w, i32_w]
  rfl
 refine Hp.pu_ 6 8 (Hp.up 16 7) ?_
 refine Hp.pu_ 7 9 (Hp.up 16 8) ?_
 refine Hp.pu_ 8 10 (Hp.up 16 9) ?_
 refine Hp.pu_ 9 11 (Hp.up 16 10) ?_
 refine take_ (i := 10) (N := some 12) (v := .agg #[.int .u64 b0, .int .u64 b1]) (a' := ?_) (Hp.up 16 11) rfl rfl (by kernel_rfl) (fun _ _ _ h => h) (own_yieldN (by rfl) (x := .tmp 11) rfl (by rfl) (.head) (vs := [.int .u64 b0, .int .u64 b1]) (by rfl) Try.underlying24 (by rfl) (by kernel_rfl) rfl) hHeld ?_ ?_
 rotate_left
 ·simp only [Act.put, List.setIfInBounds_toArray, List.set_cons_zero, List.set_cons_succ, i64_w, i32_w]
  rfl
 refine one_ (i := 11) (N := some 13) (Hp.up 16 12) rfl rfl (by kernel_rfl) (by decide) (fun K hK => ?_)
 refine goes_ Try.func66 (by kernel_rfl) rfl #[.agg #[.int .u64 a0, .int .u64 a1], .agg #[.int .u64 b0, .int .u64 b1]] (by rfl) rfl rfl (by (try simp only [List.map_toArray, List.map_cons, List.map_nil]); first | done | rfl) ?_
 refine (tnum_And.calls a0 a1 b0 b1 t0 t1 _ HT.out).mono ?_
 rintro e wx ⟨rfl, hb⟩
 refine ⟨_, rfl, ?_⟩
 have hO_ := HO.out.below hb
 clear hb
 clear HO; have HO := Aside0.mk hO_; clear hO_
 refine hK.out _ _ (HO.out) (fun hHeld => ?_)
 clear hK K
 refine norm_ (a' := ?_) ?_ ?_
 rotate_left
 ·show Act.put _ (some 13) _ = _
  simp only [Act.put, List.setIfInBounds_toArray, List.set_cons_zero, List.set_cons_succ, i64_w, i32_w]
  rfl
 refine Hp.pu_ 12 14 (Hp.up 16 13) ?_
 refine Hp.pu_ 13 15 (Hp.up 16 14) ?_
 refine Hp.pu_ 14 16 (Hp.up 16 15) ?_
 refine last_ (i := 15) (N := none) (Hp.up 16 16) rfl rfl (by kernel_rfl) (by decide) (fun K hK => ?_)
 refine own_storeN_k HO.out (by rfl) rfl (ty := 24) (x := .tmp 16) (y := .tmp 13) (vs := #[.int .u64 t0, .int .u64 t1]) (cs' := #[.int .u64 a0, .int .u64 a1, .int .u64 a2, .int .u64 a3, .int .i64 a4, .int .i64 a5, .int .u64 b0, .int .u64 b1, .int .u64 b2, .int .u64 b3, .int .i64 b4, .int .i64 b5, .int .u64 c, .bool on, .int .u64 tu, .int .u64 t0, .int .u64 t1, .int .u64 n2, .int .u64 n3, .int .i64 n4, .int .i64 n5]) rfl (by rfl) (by rfl) (by (repeat (first | exact .head | apply Ext.tail))) (by kernel_rfl) (by kernel_rfl) (by first | decide | (simp; done)) (by rfl) ?_
 intro wc hO_
 clear HO; have HO := Aside0.mk hO_; clear hO_
 refine hK.out _ _ ?_
 clear hK K
 refine done_ (by kernel_rfl) ?_
 clear hHeld
 try go_wp2
 refine start_ (n := 13) (S := fun W => Own w0 W ((gp, .cells #[.int .u64 a0, .int .u64 a1, .int .u64 a2, .int .u64 a3, .int .i64 a4, .int .i64 a5, .int .u64 b0, .int .u64 b1, .int .u64 b2, .int .u64 b3, .int .i64 b4, .int .i64 b5, .int .u64 c, .bool on, .int .u64 tu, .int .u64 t0, .int .u64 t1, .int .u64 n2, .int .u64 n3, .int .i64 n4, .int .i64 n5] 46 (0, 0)) :: L)) (ds := [12]) #[false, false, false, false, false, false, false, false, false, false, false, false, false] (by kernel_rfl) rfl rfl (Own.drew (HO.out)) (fun hHeld => ?_)
 have HO_ := Aside0.mk HO.out.drew
 clear HO
 have HO := HO_
 clear HO_
 generalize World.drew _ = wr at HO hHeld ⊢
 refine Hp.pu_ 0 17 (Hp.up 13 1) ?_
 refine Hp.pu_ 1 18 (Hp.up 13 2) ?_
 refine Hp.pu_ 2 19 (Hp.up 13 3) ?_
 refine Hp.pu_ 3 20 (Hp.up 13 4) ?_
 refine Hp.pu_ 4 21 (Hp.up 13 5) ?_
 refine take_ (i := 5) (N := some 22) (v := .int .u64 a3) (a' := ?_) (Hp.up 13 6) rfl rfl (by kernel_rfl) (fun _ _ _ h => h) (own_yield1 (by rfl) (x := .tmp 21) rfl (by rfl) (.head) Try.underlying22 (by rfl) (by rfl)) hHeld ?_ ?_
 rotate_left
 ·simp only [Act.put, List.setIfInBounds_toArray, List.set_cons_zero, List.set_cons_succ, i64_w, i32_w]
  rfl
 refine Hp.pu_ 6 23 (Hp.up 13 7) ?_
 refine Hp.pu_ 7 24 (Hp.up 13 8) ?_
 refine Hp.pu_ 8 25 (Hp.up 13 9) ?_
 refine Hp.pu_ 9 26 (Hp.up 13 10) ?_
 refine take_ (i := 10) (N := some 27) (v := .int .u64 b3) (a' := ?_) (Hp.up 13 11) rfl rfl (by kernel_rfl) (fun _ _ _ h => h) (own_yield1 (by rfl) (x := .tmp 26) rfl (by rfl) (.head) Try.underlying22 (by rfl) (by rfl)) hHeld ?_ ?_
 rotate_left
 ·simp only [Act.put, List.setIfInBounds_toArray, List.set_cons_zero, List.set_cons_succ, i64_w, i32_w]
  rfl
 refine Hp.pu_ 11 28 (Hp.up 13 12) ?_
 refine last_ (i := 12) (N := some 29) (Hp.up 13 13) rfl rfl (by kernel_rfl) (by decide) (fun K hK => ?_)
 refine goes_ Try.func61 (by kernel_rfl) rfl #[.pointer (some ⟨gp, 0, none⟩), .int .u64 0, .int .u64 (mn a3 b3)] (by rfl) rfl rfl (by (try simp only [List.map_toArray, List.map_cons, List.map_nil]); first | done | rfl) ?_
 refine (xf_unsigned (0) (mn a3 b3) ⟨a0, a1, a2, a3, a4, a5, b0, b1, b2, b3, b4, b5, c, on, tu, t0, t1, n2, n3, n4, n5⟩ gp w0 _ L HO.out).mono ?_
 rintro e wx ⟨rfl, hO_⟩
 refine ⟨_, rfl, ?_⟩
 have hO_ : Own w0 wx ((gp, .cells #[.int .u64 a0, .int .u64 a1, .int .u64 a2, .int .u64 a3, .int .i64 a4, .int .i64 a5, .int .u64 b0, .int .u64 b1, .int .u64 b2, .int .u64 b3, .int .i64 b4, .int .i64 b5, .int .u64 c, .bool on, .int .u64 tu, .int .u64 t0, .int .u64 t1, .int .u64 0, .int .u64 (mn a3 b3), .int .i64 n4, .int .i64 n5] 46 (0, 0)) :: L) := hO_; clear HO; have HO := Aside0.mk hO_; clear hO_
 refine hK.out _ _ ?_
 clear hK K
 refine norm_ (a' := ?_) ?_ ?_
 rotate_left
 ·show Act.put _ (some 29) _ = _
  simp only [Act.put, List.setIfInBounds_toArray, List.set_cons_zero, List.set_cons_succ, i64_w, i32_w]
  rfl
 refine done_ (by kernel_rfl) ?_
 clear hHeld
 (first | go_end0 | refine bodyPost_ret (results_none rfl _ _ _) rfl ?_)
 exact ⟨rfl, HO.out⟩
def xf_or (p : XfP) : Option XfP := match p with
 | ⟨a0, a1, a2, a3, a4, a5, b0, b1, b2, b3, b4, b5, c, on, tu, n0, n1, n2, n3, n4, n5⟩ => (tnum_Or.f a0 a1 b0 b1).bind fun t => some ⟨a0, a1, a2, a3, a4, a5, b0, b1, b2, b3, b4, b5, c, on, tu, t.1, t.2, mx a2 b2, 18446744073709551615, n4, n5⟩
set_option maxHeartbeats 8000000 in
set_option maxRecDepth 100000 in
theorem xf_or_ok : XfOk 33 xf_or := by
 intro p q gp w0 w L h hO
 obtain ⟨a0, a1, a2, a3, a4, a5, b0, b1, b2, b3, b4, b5, c, on, tu, n0, n1, n2, n3, n4, n5⟩ := p
 have HO : Aside0 (Own w0 w ((gp, .cells #[.int .u64 a0, .int .u64 a1, .int .u64 a2, .int .u64 a3, .int .i64 a4, .int .i64 a5, .int .u64 b0, .int .u64 b1, .int .u64 b2, .int .u64 b3, .int .i64 b4, .int .i64 b5, .int .u64 c, .bool on, .int .u64 tu, .int .u64 n0, .int .u64 n1, .int .u64 n2, .int .u64 n3, .int .i64 n4, .int .i64 n5] 46 (0, 0)) :: L)) := ⟨hO⟩
 clear hO
 have hup := Try.underlying46
 have hun := Try.underlying26
 have hut := Try.underlying24
 have huu := Try.underlying22
 have hui := Try.underlying2
 have hub := Try.underlying4
 unfold xf_or at h
 dsimp only at h
 obtain ⟨⟨t0, t1⟩, h0, h_⟩ := Option.bind_eq_some_iff.mp h
 clear h
 have h := h_
 clear h_
 have HT : Aside0 (tnum_Or.f a0 a1 b0 b1 = some (t0, t1)) := ⟨h0⟩
 clear h0
 dsimp only at h
 obtain rfl := Option.some.inj h
 clear h
 go_enter Try.func33, Try.ntmps33
 try go_wp2
 refine start_ (n := 16) (S := fun W => Own w0 W ((gp, .cells #[.int .u64 a0, .int .u64 a1, .int .u64 a2, .int .u64 a3, .int .i64 a4, .int .i64 a5, .int .u64 b0, .int .u64 b1, .int .u64 b2, .int .u64 b3, .int .i64 b4, .int .i64 b5, .int .u64 c, .bool on, .int .u64 tu, .int .u64 n0, .int .u64 n1, .int .u64 n2, .int .u64 n3, .int .i64 n4, .int .i64 n5] 46 (0, 0)) :: L)) (ds := [15]) #[false, false, false, false, false, false, false, false, false, false, false, false, false, false, false, false] (by kernel_rfl) rfl rfl (Own.drew (HO.out)) (fun hHeld => ?_)
 have HO_ := Aside0.mk HO.out.drew
 clear HO
 have HO := HO_
 clear HO_
 generalize World.drew _ = wr at HO hHeld ⊢
 refine Hp.pu_ 0 2 (Hp.up 16 1) ?_
 refine Hp.pu_ 1 3 (Hp.up 16 2) ?_
 refine Hp.pu_ 2 4 (Hp.up 16 3) ?_
 refine Hp.pu_ 3 5 (Hp.up 16 4) ?_
 refine Hp.pu_ 4 6 (Hp.up 16 5) ?_
 refine take_ (i := 5) (N := some 7) (v := .agg #[.int .u64 a0, .int .u64 a1]) (a' := ?_) (Hp.up 16 6) rfl rfl (by kernel_rfl) (fun _ _ _ h => h) (own_yieldN (by rfl) (x := .tmp 6) rfl (by rfl) (.head) (vs := [.int .u64 a0, .int .u64 a1]) (by rfl) Try.underlying24 (by rfl) (by kernel_rfl) rfl) hHeld ?_ ?_
 rotate_left
 ·simp only [Act.put, List.setIfInBounds_toArray, List.set_cons_zero, List.set_cons_succ, i64_w, i32_w]
  rfl
 refine Hp.pu_ 6 8 (Hp.up 16 7) ?_
 refine Hp.pu_ 7 9 (Hp.up 16 8) ?_
 refine Hp.pu_ 8 10 (Hp.up 16 9) ?_
 refine Hp.pu_ 9 11 (Hp.up 16 10) ?_
 refine take_ (i := 10) (N := some 12) (v := .agg #[.int .u64 b0, .int .u64 b1]) (a' := ?_) (Hp.up 16 11) rfl rfl (by kernel_rfl) (fun _ _ _ h => h) (own_yieldN (by rfl) (x := .tmp 11) rfl (by rfl) (.head) (vs := [.int .u64 b0, .int .u64 b1]) (by rfl) Try.underlying24 (by rfl) (by kernel_rfl) rfl) hHeld ?_ ?_
 rotate_left
 ·simp only [Act.put, List.setIfInBounds_toArray, List.set_cons_zero, List.set_cons_succ, i64_w, i32_w]
  rfl
 refine one_ (i := 11) (N := some 13) (Hp.up 16 12) rfl rfl (by kernel_rfl) (by decide) (fun K hK => ?_)
 refine goes_ Try.func67 (by kernel_rfl) rfl #[.agg #[.int .u64 a0, .int .u64 a1], .agg #[.int .u64 b0, .int .u64 b1]] (by rfl) rfl rfl (by (try simp only [List.map_toArray, List.map_cons, List.map_nil]); first | done | rfl) ?_
 refine (tnum_Or.calls a0 a1 b0 b1 t0 t1 _ HT.out).mono ?_
 rintro e wx ⟨rfl, hb⟩
 refine ⟨_, rfl, ?_⟩
 have hO_ := HO.out.below hb
 clear hb
 clear HO; have HO := Aside0.mk hO_; clear hO_
 refine hK.out _ _ (HO.out) (fun hHeld => ?_)
 clear hK K
 refine norm_ (a' := ?_) ?_ ?_
 rotate_left
 ·show Act.put _ (some 13) _ = _
  simp only [Act.put, List.setIfInBounds_toArray, List.set_cons_zero, List.set_cons_succ, i64_w, i32_w]
  rfl
 refine Hp.pu_ 12 14 (Hp.up 16 13) ?_
 refine Hp.pu_ 13 15 (Hp.up 16 14) ?_
 refine Hp.pu_ 14 16 (Hp.up 16 15) ?_
 refine last_ (i := 15) (N := none) (Hp.up 16 16) rfl rfl (by kernel_rfl) (by decide) (fun K hK => ?_)
 refine own_storeN_k HO.out (by rfl) rfl (ty := 24) (x := .tmp 16) (y := .tmp 13) (vs := #[.int .u64 t0, .int .u64 t1]) (cs' := #[.int .u64 a0, .int .u64 a1, .int .u64 a2, .int .u64 a3, .int .i64 a4, .int .i64 a5, .int .u64 b0, .int .u64 b1, .int .u64 b2, .int .u64 b3, .int .i64 b4, .int .i64 b5, .int .u64 c, .bool on, .int .u64 tu, .int .u64 t0, .int .u64 t1, .int .u64 n2, .int .u64 n3, .int .i64 n4, .int .i64 n5]) rfl (by rfl) (by rfl) (by (repeat (first | exact .head | apply Ext.tail))) (by kernel_rfl) (by kernel_rfl) (by first | decide | (simp; done)) (by rfl) ?_
 intro wc hO_
 clear HO; have HO := Aside0.mk hO_; clear hO_
 refine hK.out _ _ ?_
 clear hK K
 refine done_ (by kernel_rfl) ?_
 clear hHeld
 try go_wp2
 refine start_ (n := 13) (S := fun W => Own w0 W ((gp, .cells #[.int .u64 a0, .int .u64 a1, .int .u64 a2, .int .u64 a3, .int .i64 a4, .int .i64 a5, .int .u64 b0, .int .u64 b1, .int .u64 b2, .int .u64 b3, .int .i64 b4, .int .i64 b5, .int .u64 c, .bool on, .int .u64 tu, .int .u64 t0, .int .u64 t1, .int .u64 n2, .int .u64 n3, .int .i64 n4, .int .i64 n5] 46 (0, 0)) :: L)) (ds := [12]) #[false, false, false, false, false, false, false, false, false, false, false, false, false] (by kernel_rfl) rfl rfl (Own.drew (HO.out)) (fun hHeld => ?_)
 have HO_ := Aside0.mk HO.out.drew
 clear HO
 have HO := HO_
 clear HO_
 generalize World.drew _ = wr at HO hHeld ⊢
 refine Hp.pu_ 0 17 (Hp.up 13 1) ?_
 refine Hp.pu_ 1 18 (Hp.up 13 2) ?_
 refine Hp.pu_ 2 19 (Hp.up 13 3) ?_
 refine Hp.pu_ 3 20 (Hp.up 13 4) ?_
 refine Hp.pu_ 4 21 (Hp.up 13 5) ?_
 refine take_ (i := 5) (N := some 22) (v := .int .u64 a2) (a' := ?_) (Hp.up 13 6) rfl rfl (by kernel_rfl) (fun _ _ _ h => h) (own_yield1 (by rfl) (x := .tmp 21) rfl (by rfl) (.head) Try.underlying22 (by rfl) (by rfl)) hHeld ?_ ?_
 rotate_left
 ·simp only [Act.put, List.setIfInBounds_toArray, List.set_cons_zero, List.set_cons_succ, i64_w, i32_w]
  rfl
 refine Hp.pu_ 6 23 (Hp.up 13 7) ?_
 refine Hp.pu_ 7 24 (Hp.up 13 8) ?_
 refine Hp.pu_ 8 25 (Hp.up 13 9) ?_
 refine Hp.pu_ 9 26 (Hp.up 13 10) ?_
 refine take_ (i := 10) (N := some 27) (v := .int .u64 b2) (a' := ?_) (Hp.up 13 11) rfl rfl (by kernel_rfl) (fun _ _ _ h => h) (own_yield1 (by rfl) (x := .tmp 26) rfl (by rfl) (.head) Try.underlying22 (by rfl) (by rfl)) hHeld ?_ ?_
 rotate_left
 ·simp only [Act.put, List.setIfInBounds_toArray, List.set_cons_zero, List.set_cons_succ, i64_w, i32_w]
  rfl
 refine Hp.pu_ 11 28 (Hp.up 13 12) ?_
 refine last_ (i := 12) (N := some 29) (Hp.up 13 13) rfl rfl (by kernel_rfl) (by decide) (fun K hK => ?_)
 refine goes_ Try.func61 (by kernel_rfl) rfl #[.pointer (some ⟨gp, 0, none⟩), .int .u64 (mx a2 b2), .int .u64 18446744073709551615] (by rfl) rfl rfl (by (try simp only [List.map_toArray, List.map_cons, List.map_nil]); first | done | rfl) ?_
 refine (xf_unsigned (mx a2 b2) (18446744073709551615) ⟨a0, a1, a2, a3, a4, a5, b0, b1, b2, b3, b4, b5, c, on, tu, t0, t1, n2, n3, n4, n5⟩ gp w0 _ L HO.out).mono ?_
 rintro e wx ⟨rfl, hO_⟩
 refine ⟨_, rfl, ?_⟩
 have hO_ : Own w0 wx ((gp, .cells #[.int .u64 a0, .int .u64 a1, .int .u64 a2, .int .u64 a3, .int .i64 a4, .int .i64 a5, .int .u64 b0, .int .u64 b1, .int .u64 b2, .int .u64 b3, .int .i64 b4, .int .i64 b5, .int .u64 c, .bool on, .int .u64 tu, .int .u64 t0, .int .u64 t1, .int .u64 (mx a2 b2), .int .u64 18446744073709551615, .int .i64 n4, .int .i64 n5] 46 (0, 0)) :: L) := hO_; clear HO; have HO := Aside0.mk hO_; clear hO_
 refine hK.out _ _ ?_
 clear hK K
 refine norm_ (a' := ?_) ?_ ?_
 rotate_left
 ·show Act.put _ (some 29) _ = _
  simp only [Act.put, List.setIfInBounds_toArray, List.set_cons_zero, List.set_cons_succ, i64_w, i32_w]
  rfl
 refine done_ (by kernel_rfl) ?_
 clear hHeld
 (first | go_end0 | refine bodyPost_ret (results_none rfl _ _ _) rfl ?_)
 exact ⟨rfl, HO.out⟩
def xf_xor (p : XfP) : Option XfP := match p with
 | ⟨a0, a1, a2, a3, a4, a5, b0, b1, b2, b3, b4, b5, c, on, tu, n0, n1, n2, n3, n4, n5⟩ => (tnum_Xor.f a0 a1 b0 b1).bind fun t => some ⟨a0, a1, a2, a3, a4, a5, b0, b1, b2, b3, b4, b5, c, on, tu, t.1, t.2, n2, n3, n4, n5⟩
set_option maxHeartbeats 8000000 in
set_option maxRecDepth 100000 in
theorem xf_xor_ok : XfOk 34 xf_xor := by
 intro p q gp w0 w L h hO
 obtain ⟨a0, a1, a2, a3, a4, a5, b0, b1, b2, b3, b4, b5, c, on, tu, n0, n1, n2, n3, n4, n5⟩ := p
 have HO : Aside0 (Own w0 w ((gp, .cells #[.int .u64 a0, .int .u64 a1, .int .u64 a2, .int .u64 a3, .int .i64 a4, .int .i64 a5, .int .u64 b0, .int .u64 b1, .int .u64 b2, .int .u64 b3, .int .i64 b4, .int .i64 b5, .int .u64 c, .bool on, .int .u64 tu, .int .u64 n0, .int .u64 n1, .int .u64 n2, .int .u64 n3, .int .i64 n4, .int .i64 n5] 46 (0, 0)) :: L)) := ⟨hO⟩
 clear hO
 have hup := Try.underlying46
 have hun := Try.underlying26
 have hut := Try.underlying24
 have huu := Try.underlying22
 have hui := Try.underlying2
 have hub := Try.underlying4
 unfold xf_xor at h
 dsimp only at h
 obtain ⟨⟨t0, t1⟩, h0, h_⟩ := Option.bind_eq_some_iff.mp h
 clear h
 have h := h_
 clear h_
 have HT : Aside0 (tnum_Xor.f a0 a1 b0 b1 = some (t0, t1)) := ⟨h0⟩
 clear h0
 dsimp only at h
 obtain rfl := Option.some.inj h
 clear h
 go_enter Try.func34, Try.ntmps34
 try go_wp2
 refine start_ (n := 16) (S := fun W => Own w0 W ((gp, .cells #[.int .u64 a0, .int .u64 a1, .int .u64 a2, .int .u64 a3, .int .i64 a4, .int .i64 a5, .int .u64 b0, .int .u64 b1, .int .u64 b2, .int .u64 b3, .int .i64 b4, .int .i64 b5, .int .u64 c, .bool on, .int .u64 tu, .int .u64 n0, .int .u64 n1, .int .u64 n2, .int .u64 n3, .int .i64 n4, .int .i64 n5] 46 (0, 0)) :: L)) (ds := [15]) #[false, false, false, false, false, false, false, false, false, false, false, false, false, false, false, false] (by kernel_rfl) rfl rfl (Own.drew (HO.out)) (fun hHeld => ?_)
 have HO_ := Aside0.mk HO.out.drew
 clear HO
 have HO := HO_
 clear HO_
 generalize World.drew _ = wr at HO hHeld ⊢
 refine Hp.pu_ 0 2 (Hp.up 16 1) ?_
 refine Hp.pu_ 1 3 (Hp.up 16 2) ?_
 refine Hp.pu_ 2 4 (Hp.up 16 3) ?_
 refine Hp.pu_ 3 5 (Hp.up 16 4) ?_
 refine Hp.pu_ 4 6 (Hp.up 16 5) ?_
 refine take_ (i := 5) (N := some 7) (v := .agg #[.int .u64 a0, .int .u64 a1]) (a' := ?_) (Hp.up 16 6) rfl rfl (by kernel_rfl) (fun _ _ _ h => h) (own_yieldN (by rfl) (x := .tmp 6) rfl (by rfl) (.head) (vs := [.int .u64 a0, .int .u64 a1]) (by rfl) Try.underlying24 (by rfl) (by kernel_rfl) rfl) hHeld ?_ ?_
 rotate_left
 ·simp only [Act.put, List.setIfInBounds_toArray, List.set_cons_zero, List.set_cons_succ, i64_w, i32_w]
  rfl
 refine Hp.pu_ 6 8 (Hp.up 16 7) ?_
 refine Hp.pu_ 7 9 (Hp.up 16 8) ?_
 refine Hp.pu_ 8 10 (Hp.up 16 9) ?_
 refine Hp.pu_ 9 11 (Hp.up 16 10) ?_
 refine take_ (i := 10) (N := some 12) (v := .agg #[.int .u64 b0, .int .u64 b1]) (a' := ?_) (Hp.up 16 11) rfl rfl (by kernel_rfl) (fun _ _ _ h => h) (own_yieldN (by rfl) (x := .tmp 11) rfl (by rfl) (.head) (vs := [.int .u64 b0, .int .u64 b1]) (by rfl) Try.underlying24 (by rfl) (by kernel_rfl) rfl) hHeld ?_ ?_
 rotate_left
 ·simp only [Act.put, List.setIfInBounds_toArray, List.set_cons_zero, List.set_cons_succ, i64_w, i32_w]
  rfl
 refine one_ (i := 11) (N := some 13) (Hp.up 16 12) rfl rfl (by kernel_rfl) (by decide) (fun K hK => ?_)
 refine goes_ Try.func68 (by kernel_rfl) rfl #[.agg #[.int .u64 a0, .int .u64 a1], .agg #[.int .u64 b0, .int .u64 b1]] (by rfl) rfl rfl (by (try simp only [List.map_toArray, List.map_cons, List.map_nil]); first | done | rfl) ?_
 refine (tnum_Xor.calls a0 a1 b0 b1 t0 t1 _ HT.out).mono ?_
 rintro e wx ⟨rfl, hb⟩
 refine ⟨_, rfl, ?_⟩
 have hO_ := HO.out.below hb
 clear hb
 clear HO; have HO := Aside0.mk hO_; clear hO_
 refine hK.out _ _ (HO.out) (fun hHeld => ?_)
 clear hK K
 refine norm_ (a' := ?_) ?_ ?_
 rotate_left
 ·show Act.put _ (some 13) _ = _
  simp only [Act.put, List.setIfInBounds_toArray, List.set_cons_zero, List.set_cons_succ, i64_w, i32_w]
  rfl
 refine Hp.pu_ 12 14 (Hp.up 16 13) ?_
 refine Hp.pu_ 13 15 (Hp.up 16 14) ?_
 refine Hp.pu_ 14 16 (Hp.up 16 15) ?_
 refine last_ (i := 15) (N := none) (Hp.up 16 16) rfl rfl (by kernel_rfl) (by decide) (fun K hK => ?_)
 refine own_storeN_k HO.out (by rfl) rfl (ty := 24) (x := .tmp 16) (y := .tmp 13) (vs := #[.int .u64 t0, .int .u64 t1]) (cs' := #[.int .u64 a0, .int .u64 a1, .int .u64 a2, .int .u64 a3, .int .i64 a4, .int .i64 a5, .int .u64 b0, .int .u64 b1, .int .u64 b2, .int .u64 b3, .int .i64 b4, .int .i64 b5, .int .u64 c, .bool on, .int .u64 tu, .int .u64 t0, .int .u64 t1, .int .u64 n2, .int .u64 n3, .int .i64 n4, .int .i64 n5]) rfl (by rfl) (by rfl) (by (repeat (first | exact .head | apply Ext.tail))) (by kernel_rfl) (by kernel_rfl) (by first | decide | (simp; done)) (by rfl) ?_
 intro wc hO_
 clear HO; have HO := Aside0.mk hO_; clear hO_
 refine hK.out _ _ ?_
 clear hK K
 refine done_ (by kernel_rfl) ?_
 clear hHeld
 (first | go_end0 | refine bodyPost_ret (results_none rfl _ _ _) rfl ?_)
 exact ⟨rfl, HO.out⟩
def xf_div (p : XfP) : Option XfP := match p with
 | ⟨a0, a1, a2, a3, a4, a5, b0, b1, b2, b3, b4, b5, c, on, tu, n0, n1, n2, n3, n4, n5⟩ => if (on && decide (c > 0)) = true then some ⟨a0, a1, a2, a3, a4, a5, b0, b1, b2, b3, b4, b5, c, on, tu, n0, n1, IntKind.u64.wrap (Int.tdiv a2 c), IntKind.u64.wrap (Int.tdiv a3 c), n4, n5⟩ else some ⟨a0, a1, a2, a3, a4, a5, b0, b1, b2, b3, b4, b5, c, on, tu, n0, n1, 0, a3, n4, n5⟩
set_option maxHeartbeats 8000000 in
set_option maxRecDepth 100000 in
theorem xf_div_ok : XfOk 30 xf_div := by
 intro p q gp w0 w L h hO
 obtain ⟨a0, a1, a2, a3, a4, a5, b0, b1, b2, b3, b4, b5, c, on, tu, n0, n1, n2, n3, n4, n5⟩ := p
 have HO : Aside0 (Own w0 w ((gp, .cells #[.int .u64 a0, .int .u64 a1, .int .u64 a2, .int .u64 a3, .int .i64 a4, .int .i64 a5, .int .u64 b0, .int .u64 b1, .int .u64 b2, .int .u64 b3, .int .i64 b4, .int .i64 b5, .int .u64 c, .bool on, .int .u64 tu, .int .u64 n0, .int .u64 n1, .int .u64 n2, .int .u64 n3, .int .i64 n4, .int .i64 n5] 46 (0, 0)) :: L)) := ⟨hO⟩
 clear hO
 have hup := Try.underlying46
 have hun := Try.underlying26
 have hut := Try.underlying24
 have huu := Try.underlying22
 have hui := Try.underlying2
 have hub := Try.underlying4
 unfold xf_div at h
 dsimp only at h
 cases on with
 | false =>
  simp only [Bool.false_and, Bool.false_eq_true, if_false] at h
  obtain rfl := Option.some.inj h
  clear h
  have hk_o : World.cell? _ ⟨gp, 13, none⟩ = some (.bool false) := (HO.out.cell .head 13).trans rfl
  go_enter Try.func30, Try.ntmps30
  go_wp2_with (first | ((with_reducible refine gate_dst (N := 40) rfl ?_); refine own_load HO.out rfl (x := .tmp 39) (v := .int .u64 a3) rfl (by rfl) (by (repeat (first | exact .head | apply Ext.tail))) Try.underlying22 (by rfl) (by rfl) ?_) | ((with_reducible refine gate_callee (f := 61) rfl ?_); (with_reducible refine gate_dst (N := 41) rfl ?_); refine goesL_ (some 41) rfl rfl Try.func61 (by kernel_rfl) rfl #[.pointer (some ⟨gp, 0, none⟩), .int .u64 0, .int .u64 a3] rfl (by (try simp only [List.map_toArray, List.map_cons, List.map_nil]); first | done | rfl) ?_; (with_reducible refine (xf_unsigned (0) (a3) ⟨a0, a1, a2, a3, a4, a5, b0, b1, b2, b3, b4, b5, c, false, tu, n0, n1, n2, n3, n4, n5⟩ gp w0 _ L HO.out).mono ?_); rintro e wx ⟨rfl, hO_⟩; refine ⟨_, rfl, ?_⟩; have hO_ : Own w0 wx ((gp, .cells #[.int .u64 a0, .int .u64 a1, .int .u64 a2, .int .u64 a3, .int .i64 a4, .int .i64 a5, .int .u64 b0, .int .u64 b1, .int .u64 b2, .int .u64 b3, .int .i64 b4, .int .i64 b5, .int .u64 c, .bool false, .int .u64 tu, .int .u64 n0, .int .u64 n1, .int .u64 0, .int .u64 a3, .int .i64 n4, .int .i64 n5] 46 (0, 0)) :: L) := hO_; clear HO; have HO := Aside0.mk hO_; clear hO_))
  (first | go_end0 | refine bodyPost_ret (results_none rfl _ _ _) rfl ?_)
  exact ⟨rfl, HO.out⟩
 | true =>
  by_cases c1 : c > 0
  ·skip
   rw [decide_eq_true c1] at h
   simp only [Bool.and_self, if_true] at h
   obtain rfl := Option.some.inj h
   clear h
   have c0 : ¬ c = 0 := by omega
   have c2 : decide (c > 0) = true := decide_eq_true c1
   have hk_o : World.cell? _ ⟨gp, 13, none⟩ = some (.bool true) := (HO.out.cell .head 13).trans rfl
   have hk_c : World.cell? _ ⟨gp, 12, none⟩ = some (.int .u64 c) := (HO.out.cell .head 12).trans rfl
   go_enter Try.func30, Try.ntmps30
   try go_wp2
   refine start_ (n := 22) (S := fun W => Own w0 W ((gp, .cells #[.int .u64 a0, .int .u64 a1, .int .u64 a2, .int .u64 a3, .int .i64 a4, .int .i64 a5, .int .u64 b0, .int .u64 b1, .int .u64 b2, .int .u64 b3, .int .i64 b4, .int .i64 b5, .int .u64 c, .bool true, .int .u64 tu, .int .u64 n0, .int .u64 n1, .int .u64 n2, .int .u64 n3, .int .i64 n4, .int .i64 n5] 46 (0, 0)) :: L)) (ds := [21]) #[false, false, false, false, false, false, false, false, false, false, false, false, false, false, false, false, false, false, false, false, false, false] (by kernel_rfl) rfl rfl (Own.drew (HO.out)) (fun hHeld => ?_)
   have HO_ := Aside0.mk HO.out.drew
   clear HO
   have HO := HO_
   clear HO_
   generalize World.drew _ = wr at HO hHeld ⊢
   refine Hp.pu_ 0 13 (Hp.up 22 1) ?_
   refine Hp.pu_ 1 14 (Hp.up 22 2) ?_
   refine Hp.pu_ 2 15 (Hp.up 22 3) ?_
   refine Hp.pu_ 3 16 (Hp.up 22 4) ?_
   refine Hp.pu_ 4 17 (Hp.up 22 5) ?_
   refine take_ (i := 5) (N := some 18) (v := .int .u64 a2) (a' := ?_) (Hp.up 22 6) rfl rfl (by kernel_rfl) (fun _ _ _ h => h) (own_yield1 (by rfl) (x := .tmp 17) rfl (by rfl) (.head) Try.underlying22 (by rfl) (by rfl)) hHeld ?_ ?_
   rotate_left
   ·simp only [Act.put, List.setIfInBounds_toArray, List.set_cons_zero, List.set_cons_succ, i64_w, i32_w]
    rfl
   refine Hp.pu_ 6 19 (Hp.up 22 7) ?_
   refine Hp.pu_ 7 20 (Hp.up 22 8) ?_
   refine Hp.pu_ 8 21 (Hp.up 22 9) ?_
   refine take_ (i := 9) (N := some 22) (v := .int .u64 c) (a' := ?_) (Hp.up 22 10) rfl rfl (by kernel_rfl) (fun _ _ _ h => h) (own_yield1 (by rfl) (x := .tmp 21) rfl (by rfl) (.head) Try.underlying22 (by rfl) (by rfl)) hHeld ?_ ?_
   rotate_left
   ·simp only [Act.put, List.setIfInBounds_toArray, List.set_cons_zero, List.set_cons_succ, i64_w, i32_w]
    rfl
   refine Hp.pu_ 10 23 (Hp.up 22 11) ?_
   refine Hp.pu_ 11 24 (Hp.up 22 12) ?_
   refine Hp.pu_ 12 25 (Hp.up 22 13) ?_
   refine Hp.pu_ 13 26 (Hp.up 22 14) ?_
   refine Hp.pu_ 14 27 (Hp.up 22 15) ?_
   refine take_ (i := 15) (N := some 28) (v := .int .u64 a3) (a' := ?_) (Hp.up 22 16) rfl rfl (by kernel_rfl) (fun _ _ _ h => h) (own_yield1 (by rfl) (x := .tmp 27) rfl (by rfl) (.head) Try.underlying22 (by rfl) (by rfl)) hHeld ?_ ?_
   rotate_left
   ·simp only [Act.put, List.setIfInBounds_toArray, List.set_cons_zero, List.set_cons_succ, i64_w, i32_w]
    rfl
   refine Hp.pu_ 16 29 (Hp.up 22 17) ?_
   refine Hp.pu_ 17 30 (Hp.up 22 18) ?_
   refine Hp.pu_ 18 31 (Hp.up 22 19) ?_
   refine take_ (i := 19) (N := some 32) (v := .int .u64 c) (a' := ?_) (Hp.up 22 20) rfl rfl (by kernel_rfl) (fun _ _ _ h => h) (own_yield1 (by rfl) (x := .tmp 31) rfl (by rfl) (.head) Try.underlying22 (by rfl) (by rfl)) hHeld ?_ ?_
   rotate_left
   ·simp only [Act.put, List.setIfInBounds_toArray, List.set_cons_zero, List.set_cons_succ, i64_w, i32_w]
    rfl
   refine Hp.pu_ 20 33 (Hp.up 22 21) ?_
   refine last_ (i := 21) (N := some 34) (Hp.up 22 22) rfl rfl (by kernel_rfl) (by decide) (fun K hK => ?_)
   refine goes_ Try.func61 (by kernel_rfl) rfl #[.pointer (some ⟨gp, 0, none⟩), .int .u64 (IntKind.u64.wrap (Int.tdiv a2 c)), .int .u64 (IntKind.u64.wrap (Int.tdiv a3 c))] (by rfl) rfl rfl (by (try simp only [List.map_toArray, List.map_cons, List.map_nil]); first | done | rfl) ?_
   refine (xf_unsigned (IntKind.u64.wrap (Int.tdiv a2 c)) (IntKind.u64.wrap (Int.tdiv a3 c)) ⟨a0, a1, a2, a3, a4, a5, b0, b1, b2, b3, b4, b5, c, true, tu, n0, n1, n2, n3, n4, n5⟩ gp w0 _ L HO.out).mono ?_
   rintro e wx ⟨rfl, hO_⟩
   refine ⟨_, rfl, ?_⟩
   have hO_ : Own w0 wx ((gp, .cells #[.int .u64 a0, .int .u64 a1, .int .u64 a2, .int .u64 a3, .int .i64 a4, .int .i64 a5, .int .u64 b0, .int .u64 b1, .int .u64 b2, .int .u64 b3, .int .i64 b4, .int .i64 b5, .int .u64 c, .bool true, .int .u64 tu, .int .u64 n0, .int .u64 n1, .int .u64 (IntKind.u64.wrap (Int.tdiv a2 c)), .int .u64 (IntKind.u64.wrap (Int.tdiv a3 c)), .int .i64 n4, .int .i64 n5] 46 (0, 0)) :: L) := hO_; clear HO; have HO := Aside0.mk hO_; clear hO_
   refine hK.out _ _ ?_
   clear hK K
   refine norm_ (a' := ?_) ?_ ?_
   rotate_left
   ·show Act.put _ (some 34) _ = _
    simp only [Act.put, List.setIfInBounds_toArray, List.set_cons_zero, List.set_cons_succ, i64_w, i32_w]
    rfl
   refine done_ (by kernel_rfl) ?_
   clear hHeld
   try go_wp2
   (first | go_end0 | refine bodyPost_ret (results_none rfl _ _ _) rfl ?_)
   exact ⟨rfl, HO.out⟩
  ·skip
   rw [decide_eq_false c1] at h
   simp only [Bool.and_false, Bool.false_eq_true, if_false] at h
   obtain rfl := Option.some.inj h
   clear h
   have c2 : decide (c > 0) = false := decide_eq_false c1
   have hk_o : World.cell? _ ⟨gp, 13, none⟩ = some (.bool true) := (HO.out.cell .head 13).trans rfl
   have hk_c : World.cell? _ ⟨gp, 12, none⟩ = some (.int .u64 c) := (HO.out.cell .head 12).trans rfl
   go_enter Try.func30, Try.ntmps30
   go_wp2_with (first | ((with_reducible refine gate_dst (N := 40) rfl ?_); refine own_load HO.out rfl (x := .tmp 39) (v := .int .u64 a3) rfl (by rfl) (by (repeat (first | exact .head | apply Ext.tail))) Try.underlying22 (by rfl) (by rfl) ?_) | ((with_reducible refine gate_callee (f := 61) rfl ?_); (with_reducible refine gate_dst (N := 41) rfl ?_); refine goesL_ (some 41) rfl rfl Try.func61 (by kernel_rfl) rfl #[.pointer (some ⟨gp, 0, none⟩), .int .u64 0, .int .u64 a3] rfl (by (try simp only [List.map_toArray, List.map_cons, List.map_nil]); first | done | rfl) ?_; (with_reducible refine (xf_unsigned (0) (a3) ⟨a0, a1, a2, a3, a4, a5, b0, b1, b2, b3, b4, b5, c, true, tu, n0, n1, n2, n3, n4, n5⟩ gp w0 _ L HO.out).mono ?_); rintro e wx ⟨rfl, hO_⟩; refine ⟨_, rfl, ?_⟩; have hO_ : Own w0 wx ((gp, .cells #[.int .u64 a0, .int .u64 a1, .int .u64 a2, .int .u64 a3, .int .i64 a4, .int .i64 a5, .int .u64 b0, .int .u64 b1, .int .u64 b2, .int .u64 b3, .int .i64 b4, .int .i64 b5, .int .u64 c, .bool true, .int .u64 tu, .int .u64 n0, .int .u64 n1, .int .u64 0, .int .u64 a3, .int .i64 n4, .int .i64 n5] 46 (0, 0)) :: L) := hO_; clear HO; have HO := Aside0.mk hO_; clear hO_))
   (first | go_end0 | refine bodyPost_ret (results_none rfl _ _ _) rfl ?_)
   exact ⟨rfl, HO.out⟩
def xf_mod (p : XfP) : Option XfP := match p with
 | ⟨a0, a1, a2, a3, a4, a5, b0, b1, b2, b3, b4, b5, c, on, tu, n0, n1, n2, n3, n4, n5⟩ => if (on && decide (c > 0)) = true then some ⟨a0, a1, a2, a3, a4, a5, b0, b1, b2, b3, b4, b5, c, on, tu, n0, n1, 0, mn a3 (IntKind.u64.wrap (c - 1)), n4, n5⟩ else some ⟨a0, a1, a2, a3, a4, a5, b0, b1, b2, b3, b4, b5, c, on, tu, n0, n1, 0, a3, n4, n5⟩
set_option maxHeartbeats 8000000 in
set_option maxRecDepth 100000 in
theorem xf_mod_ok : XfOk 31 xf_mod := by
 intro p q gp w0 w L h hO
 obtain ⟨a0, a1, a2, a3, a4, a5, b0, b1, b2, b3, b4, b5, c, on, tu, n0, n1, n2, n3, n4, n5⟩ := p
 have HO : Aside0 (Own w0 w ((gp, .cells #[.int .u64 a0, .int .u64 a1, .int .u64 a2, .int .u64 a3, .int .i64 a4, .int .i64 a5, .int .u64 b0, .int .u64 b1, .int .u64 b2, .int .u64 b3, .int .i64 b4, .int .i64 b5, .int .u64 c, .bool on, .int .u64 tu, .int .u64 n0, .int .u64 n1, .int .u64 n2, .int .u64 n3, .int .i64 n4, .int .i64 n5] 46 (0, 0)) :: L)) := ⟨hO⟩
 clear hO
 have hup := Try.underlying46
 have hun := Try.underlying26
 have hut := Try.underlying24
 have huu := Try.underlying22
 have hui := Try.underlying2
 have hub := Try.underlying4
 unfold xf_mod at h
 dsimp only at h
 cases on with
 | false =>
  simp only [Bool.false_and, Bool.and_false, Bool.and_self, Bool.not_true, Bool.not_false, Bool.false_eq_true, if_true, if_false] at h
  obtain rfl := Option.some.inj h
  clear h
  go_enter Try.func31, Try.ntmps31
  go_wp2_with (first | ((with_reducible refine gate_dst (N := 7) rfl ?_); refine own_load HO.out rfl (x := .tmp 6) (v := .int .u64 a3) rfl (by rfl) (by (repeat (first | exact .head | apply Ext.tail))) Try.underlying22 (by rfl) (by rfl) ?_) | ((with_reducible refine gate_callee (f := 61) rfl ?_); (with_reducible refine gate_dst (N := 8) rfl ?_); refine goesL_ (some 8) rfl rfl Try.func61 (by kernel_rfl) rfl #[.pointer (some ⟨gp, 0, none⟩), .int .u64 0, .int .u64 a3] rfl (by (try simp only [List.map_toArray, List.map_cons, List.map_nil]); first | done | rfl) ?_; (with_reducible refine (xf_unsigned (0) (a3) ⟨a0, a1, a2, a3, a4, a5, b0, b1, b2, b3, b4, b5, c, false, tu, n0, n1, n2, n3, n4, n5⟩ gp w0 _ L HO.out).mono ?_); rintro e wx ⟨rfl, hO_⟩; refine ⟨_, rfl, ?_⟩; have hO_ : Own w0 wx ((gp, .cells #[.int .u64 a0, .int .u64 a1, .int .u64 a2, .int .u64 a3, .int .i64 a4, .int .i64 a5, .int .u64 b0, .int .u64 b1, .int .u64 b2, .int .u64 b3, .int .i64 b4, .int .i64 b5, .int .u64 c, .bool false, .int .u64 tu, .int .u64 n0, .int .u64 n1, .int .u64 0, .int .u64 a3, .int .i64 n4, .int .i64 n5] 46 (0, 0)) :: L) := hO_; clear HO; have HO := Aside0.mk hO_; clear hO_; have hk_13 : World.cell? _ ⟨gp, 13, none⟩ = some (.bool false) := (HO.out.cell .head 13).trans rfl))
  (first | go_end0 | refine bodyPost_ret (results_none rfl _ _ _) rfl ?_)
  exact ⟨rfl, HO.out⟩
 | true =>
  by_cases c1 : c > 0
  ·skip
   rw [decide_eq_true c1] at h
   simp only [Bool.false_and, Bool.and_false, Bool.and_self, Bool.not_true, Bool.not_false, Bool.false_eq_true, if_true, if_false] at h
   obtain rfl := Option.some.inj h
   clear h
   have c2 : decide (c > 0) = true := decide_eq_true c1
   go_enter Try.func31, Try.ntmps31
   go_wp2_with (first | ((with_reducible refine gate_dst (N := 7) rfl ?_); refine own_load HO.out rfl (x := .tmp 6) (v := .int .u64 a3) rfl (by rfl) (by (repeat (first | exact .head | apply Ext.tail))) Try.underlying22 (by rfl) (by rfl) ?_) | ((with_reducible refine gate_callee (f := 61) rfl ?_); (with_reducible refine gate_dst (N := 8) rfl ?_); refine goesL_ (some 8) rfl rfl Try.func61 (by kernel_rfl) rfl #[.pointer (some ⟨gp, 0, none⟩), .int .u64 0, .int .u64 a3] rfl (by (try simp only [List.map_toArray, List.map_cons, List.map_nil]); first | done | rfl) ?_; (with_reducible refine (xf_unsigned (0) (a3) ⟨a0, a1, a2, a3, a4, a5, b0, b1, b2, b3, b4, b5, c, true, tu, n0, n1, n2, n3, n4, n5⟩ gp w0 _ L HO.out).mono ?_); rintro e wx ⟨rfl, hO_⟩; refine ⟨_, rfl, ?_⟩; have hO_ : Own w0 wx ((gp, .cells #[.int .u64 a0, .int .u64 a1, .int .u64 a2, .int .u64 a3, .int .i64 a4, .int .i64 a5, .int .u64 b0, .int .u64 b1, .int .u64 b2, .int .u64 b3, .int .i64 b4, .int .i64 b5, .int .u64 c, .bool true, .int .u64 tu, .int .u64 n0, .int .u64 n1, .int .u64 0, .int .u64 a3, .int .i64 n4, .int .i64 n5] 46 (0, 0)) :: L) := hO_; clear HO; have HO := Aside0.mk hO_; clear hO_; have hk_13 : World.cell? _ ⟨gp, 13, none⟩ = some (.bool true) := (HO.out.cell .head 13).trans rfl; have hk_12 : World.cell? _ ⟨gp, 12, none⟩ = some (.int .u64 c) := (HO.out.cell .head 12).trans rfl))
   refine start_ (n := 16) (S := fun W => Own w0 W ((gp, .cells #[.int .u64 a0, .int .u64 a1, .int .u64 a2, .int .u64 a3, .int .i64 a4, .int .i64 a5, .int .u64 b0, .int .u64 b1, .int .u64 b2, .int .u64 b3, .int .i64 b4, .int .i64 b5, .int .u64 c, .bool true, .int .u64 tu, .int .u64 n0, .int .u64 n1, .int .u64 0, .int .u64 a3, .int .i64 n4, .int .i64 n5] 46 (0, 0)) :: L)) (ds := [15]) #[false, false, false, false, false, false, false, false, false, false, false, false, false, false, false, false] (by kernel_rfl) rfl rfl (Own.drew (HO.out)) (fun hHeld => ?_)
   have HO_ := Aside0.mk HO.out.drew
   clear HO
   have HO := HO_
   clear HO_
   generalize World.drew _ = wr at HO hHeld ⊢
   refine Hp.pu_ 0 20 (Hp.up 16 1) ?_
   refine Hp.pu_ 1 21 (Hp.up 16 2) ?_
   refine Hp.pu_ 2 22 (Hp.up 16 3) ?_
   refine Hp.pu_ 3 23 (Hp.up 16 4) ?_
   refine Hp.pu_ 4 24 (Hp.up 16 5) ?_
   refine take_ (i := 5) (N := some 25) (v := .int .u64 a3) (a' := ?_) (Hp.up 16 6) rfl rfl (by kernel_rfl) (fun _ _ _ h => h) (own_yield1 (by rfl) (x := .tmp 24) rfl (by rfl) (.head) Try.underlying22 (by rfl) (by rfl)) hHeld ?_ ?_
   rotate_left
   ·simp only [Act.put, List.setIfInBounds_toArray, List.set_cons_zero, List.set_cons_succ, i64_w, i32_w]
    rfl
   refine Hp.pu_ 6 26 (Hp.up 16 7) ?_
   refine Hp.pu_ 7 27 (Hp.up 16 8) ?_
   refine Hp.pu_ 8 28 (Hp.up 16 9) ?_
   refine take_ (i := 9) (N := some 29) (v := .int .u64 c) (a' := ?_) (Hp.up 16 10) rfl rfl (by kernel_rfl) (fun _ _ _ h => h) (own_yield1 (by rfl) (x := .tmp 28) rfl (by rfl) (.head) Try.underlying22 (by rfl) (by rfl)) hHeld ?_ ?_
   rotate_left
   ·simp only [Act.put, List.setIfInBounds_toArray, List.set_cons_zero, List.set_cons_succ, i64_w, i32_w]
    rfl
   refine Hp.pu_ 10 30 (Hp.up 16 11) ?_
   refine Hp.pu_ 11 31 (Hp.up 16 12) ?_
   refine Hp.pu_ 12 32 (Hp.up 16 13) ?_
   refine Hp.pu_ 13 33 (Hp.up 16 14) ?_
   refine Hp.pu_ 14 34 (Hp.up 16 15) ?_
   refine last_ (i := 15) (N := none) (Hp.up 16 16) rfl rfl (by kernel_rfl) (by decide) (fun K hK => ?_)
   refine own_store_k HO.out (by rfl) rfl (ty := 22) (x := .tmp 34) (y := .tmp 31) (v := .int .u64 (mn a3 (IntKind.u64.wrap (c - 1)))) (cs' := #[.int .u64 a0, .int .u64 a1, .int .u64 a2, .int .u64 a3, .int .i64 a4, .int .i64 a5, .int .u64 b0, .int .u64 b1, .int .u64 b2, .int .u64 b3, .int .i64 b4, .int .i64 b5, .int .u64 c, .bool true, .int .u64 tu, .int .u64 n0, .int .u64 n1, .int .u64 0, .int .u64 (mn a3 (IntKind.u64.wrap (c - 1))), .int .i64 n4, .int .i64 n5]) rfl (by rfl) (by rfl) (by (repeat (first | exact .head | apply Ext.tail))) (by kernel_rfl) (by rfl) (by first | decide | (simp; done)) (by rfl) ?_
   intro wc hO_
   clear HO; have HO := Aside0.mk hO_; clear hO_
   refine hK.out _ _ ?_
   clear hK K
   refine done_ (by kernel_rfl) ?_
   clear hHeld
   (first | go_end0 | refine bodyPost_ret (results_none rfl _ _ _) rfl ?_)
   exact ⟨rfl, HO.out⟩
  ·skip
   rw [decide_eq_false c1] at h
   simp only [Bool.false_and, Bool.and_false, Bool.and_self, Bool.not_true, Bool.not_false, Bool.false_eq_true, if_true, if_false] at h
   obtain rfl := Option.some.inj h
   clear h
   have c2 : decide (c > 0) = false := decide_eq_false c1
   go_enter Try.func31, Try.ntmps31
   go_wp2_with (first | ((with_reducible refine gate_dst (N := 7) rfl ?_); refine own_load HO.out rfl (x := .tmp 6) (v := .int .u64 a3) rfl (by rfl) (by (repeat (first | exact .head | apply Ext.tail))) Try.underlying22 (by rfl) (by rfl) ?_) | ((with_reducible refine gate_callee (f := 61) rfl ?_); (with_reducible refine gate_dst (N := 8) rfl ?_); refine goesL_ (some 8) rfl rfl Try.func61 (by kernel_rfl) rfl #[.pointer (some ⟨gp, 0, none⟩), .int .u64 0, .int .u64 a3] rfl (by (try simp only [List.map_toArray, List.map_cons, List.map_nil]); first | done | rfl) ?_; (with_reducible refine (xf_unsigned (0) (a3) ⟨a0, a1, a2, a3, a4, a5, b0, b1, b2, b3, b4, b5, c, true, tu, n0, n1, n2, n3, n4, n5⟩ gp w0 _ L HO.out).mono ?_); rintro e wx ⟨rfl, hO_⟩; refine ⟨_, rfl, ?_⟩; have hO_ : Own w0 wx ((gp, .cells #[.int .u64 a0, .int .u64 a1, .int .u64 a2, .int .u64 a3, .int .i64 a4, .int .i64 a5, .int .u64 b0, .int .u64 b1, .int .u64 b2, .int .u64 b3, .int .i64 b4, .int .i64 b5, .int .u64 c, .bool true, .int .u64 tu, .int .u64 n0, .int .u64 n1, .int .u64 0, .int .u64 a3, .int .i64 n4, .int .i64 n5] 46 (0, 0)) :: L) := hO_; clear HO; have HO := Aside0.mk hO_; clear hO_; have hk_13 : World.cell? _ ⟨gp, 13, none⟩ = some (.bool true) := (HO.out.cell .head 13).trans rfl; have hk_12 : World.cell? _ ⟨gp, 12, none⟩ = some (.int .u64 c) := (HO.out.cell .head 12).trans rfl))
   (first | go_end0 | refine bodyPost_ret (results_none rfl _ _ _) rfl ?_)
   exact ⟨rfl, HO.out⟩
def xf_lsh (p : XfP) : Option XfP := match p with
 | ⟨a0, a1, a2, a3, a4, a5, b0, b1, b2, b3, b4, b5, c, on, tu, n0, n1, n2, n3, n4, n5⟩ => if on = true then if tu = 0 then none else if 0 ≤ Int.tmod c tu then (tnum_Lsh.f a0 a1 (Int.tmod c tu)).bind fun t => if (IntKind.u64.wrap (a3 * 2 ^ min (Int.tmod c tu).toNat 64) / 2 ^ min (Int.tmod c tu).toNat 64 == a3) = true then some ⟨a0, a1, a2, a3, a4, a5, b0, b1, b2, b3, b4, b5, c, on, tu, t.1, t.2, shl .u64 a2 (Int.tmod c tu), shl .u64 a3 (Int.tmod c tu), n4, n5⟩ else some ⟨a0, a1, a2, a3, a4, a5, b0, b1, b2, b3, b4, b5, c, on, tu, t.1, t.2, n2, n3, n4, n5⟩ else none else some ⟨a0, a1, a2, a3, a4, a5, b0, b1, b2, b3, b4, b5, c, on, tu, n0, n1, n2, n3, n4, n5⟩
set_option maxHeartbeats 8000000 in
set_option maxRecDepth 100000 in
theorem xf_lsh_ok : XfOk 35 xf_lsh := by
 intro p q gp w0 w L h hO
 obtain ⟨a0, a1, a2, a3, a4, a5, b0, b1, b2, b3, b4, b5, c, on, tu, n0, n1, n2, n3, n4, n5⟩ := p
 have HO : Aside0 (Own w0 w ((gp, .cells #[.int .u64 a0, .int .u64 a1, .int .u64 a2, .int .u64 a3, .int .i64 a4, .int .i64 a5, .int .u64 b0, .int .u64 b1, .int .u64 b2, .int .u64 b3, .int .i64 b4, .int .i64 b5, .int .u64 c, .bool on, .int .u64 tu, .int .u64 n0, .int .u64 n1, .int .u64 n2, .int .u64 n3, .int .i64 n4, .int .i64 n5] 46 (0, 0)) :: L)) := ⟨hO⟩
 clear hO
 have hup := Try.underlying46
 have hun := Try.underlying26
 have hut := Try.underlying24
 have huu := Try.underlying22
 have hui := Try.underlying2
 have hub := Try.underlying4
 unfold xf_lsh at h
 dsimp only at h
 cases on with
 | false =>
  rw [if_neg Bool.false_ne_true] at h
  obtain rfl := Option.some.inj h
  clear h
  go_enter Try.func35, Try.ntmps35
  go_wp2_with (first | ((with_reducible refine gate_dst (N := 6) rfl ?_); refine own_load HO.out rfl (x := .tmp 5) (v := .bool false) rfl (by rfl) (by (repeat (first | exact .head | apply Ext.tail))) Try.underlying4 (by rfl) (by rfl) ?_))
  (first | go_end0 | refine bodyPost_ret (results_none rfl _ _ _) rfl ?_)
  exact ⟨rfl, HO.out⟩
 | true =>
  rw [if_pos rfl] at h
  by_cases hz : tu = 0
  ·rw [if_pos hz] at h; cases h
  rw [if_neg hz] at h
  by_cases hk0 : 0 ≤ Int.tmod c tu
  rotate_left
  ·rw [if_neg hk0] at h; cases h
  rw [if_pos hk0] at h
  obtain ⟨⟨t0, t1⟩, h0, h_⟩ := Option.bind_eq_some_iff.mp h
  clear h
  have h := h_
  clear h_
  have HT : Aside0 (tnum_Lsh.f a0 a1 (Int.tmod c tu) = some (t0, t1)) := ⟨h0⟩
  clear h0
  dsimp only at h
  go_enter Try.func35, Try.ntmps35
  go_wp2_with (first | ((with_reducible refine gate_dst (N := 6) rfl ?_); refine own_load HO.out rfl (x := .tmp 5) (v := .bool true) rfl (by rfl) (by (repeat (first | exact .head | apply Ext.tail))) Try.underlying4 (by rfl) (by rfl) ?_))
  refine start_ (n := 10) (S := fun W => Own w0 W ((gp, .cells #[.int .u64 a0, .int .u64 a1, .int .u64 a2, .int .u64 a3, .int .i64 a4, .int .i64 a5, .int .u64 b0, .int .u64 b1, .int .u64 b2, .int .u64 b3, .int .i64 b4, .int .i64 b5, .int .u64 c, .bool true, .int .u64 tu, .int .u64 n0, .int .u64 n1, .int .u64 n2, .int .u64 n3, .int .i64 n4, .int .i64 n5] 46 (0, 0)) :: L)) (ds := []) #[false, false, false, false, false, false, false, false, false, false] (by kernel_rfl) rfl rfl (Own.drew (HO.out)) (fun hHeld => ?_)
  have HO_ := Aside0.mk HO.out.drew
  clear HO
  have HO := HO_
  clear HO_
  generalize World.drew _ = wr at HO hHeld ⊢
  refine Hp.pu_ 0 8 (Hp.up 10 1) ?_
  refine Hp.pu_ 1 9 (Hp.up 10 2) ?_
  refine Hp.pu_ 2 10 (Hp.up 10 3) ?_
  refine take_ (i := 3) (N := some 11) (v := .int .u64 c) (a' := ?_) (Hp.up 10 4) rfl rfl (by kernel_rfl) (fun _ _ _ h => h) (own_yield1 (by rfl) (x := .tmp 10) rfl (by rfl) (.head) Try.underlying22 (by rfl) (by rfl)) hHeld ?_ ?_
  rotate_left
  ·simp only [Act.put, List.setIfInBounds_toArray, List.set_cons_zero, List.set_cons_succ, i64_w, i32_w]
   rfl
  refine Hp.pu_ 4 12 (Hp.up 10 5) ?_
  refine Hp.pu_ 5 13 (Hp.up 10 6) ?_
  refine Hp.pu_ 6 14 (Hp.up 10 7) ?_
  refine take_ (i := 7) (N := some 15) (v := .int .u64 tu) (a' := ?_) (Hp.up 10 8) rfl rfl (by kernel_rfl) (fun _ _ _ h => h) (own_yield1 (by rfl) (x := .tmp 14) rfl (by rfl) (.head) Try.underlying22 (by rfl) (by rfl)) hHeld ?_ ?_
  rotate_left
  ·simp only [Act.put, List.setIfInBounds_toArray, List.set_cons_zero, List.set_cons_succ, i64_w, i32_w]
   rfl
  refine Hp.pu_ 8 16 (Hp.up 10 9) ?_
  refine Hp.pu_ 9 2 (Hp.up 10 10) ?_
  refine done_ (by kernel_rfl) ?_
  clear hHeld
  go_wp2_with (first | ((with_reducible refine gate_dst (N := 22) rfl ?_); refine own_loadN HO.out rfl (x := .tmp 21) rfl (by rfl) (by (repeat (first | exact .head | apply Ext.tail))) (vs := [.int .u64 a0, .int .u64 a1]) (by rfl) Try.underlying24 (by rfl) (by kernel_rfl) (va := #[.int .u64 a0, .int .u64 a1]) rfl ?_) | ((with_reducible refine gate_callee (f := 69) rfl ?_); (with_reducible refine gate_dst (N := 24) rfl ?_); refine goesL_ (some 24) rfl rfl Try.func69 (by kernel_rfl) rfl #[.agg #[.int .u64 a0, .int .u64 a1], .int .u64 (Int.tmod c tu)] rfl (by (try simp only [List.map_toArray, List.map_cons, List.map_nil]); first | done | rfl) ?_; (with_reducible refine (tnum_Lsh.calls a0 a1 (Int.tmod c tu) t0 t1 _ HT.out).mono ?_); rintro e wx ⟨rfl, hb⟩; refine ⟨_, rfl, ?_⟩; have hO_ := HO.out.below hb; clear hb; clear HO; have HO := Aside0.mk hO_; clear hO_) | ((with_reducible refine gate_store (p := 27) rfl ?_); refine own_storeN HO.out rfl (ty := 24) (x := .tmp 27) (y := .tmp 24) (vs := #[.int .u64 t0, .int .u64 t1]) (cs' := #[.int .u64 a0, .int .u64 a1, .int .u64 a2, .int .u64 a3, .int .i64 a4, .int .i64 a5, .int .u64 b0, .int .u64 b1, .int .u64 b2, .int .u64 b3, .int .i64 b4, .int .i64 b5, .int .u64 c, .bool true, .int .u64 tu, .int .u64 t0, .int .u64 t1, .int .u64 n2, .int .u64 n3, .int .i64 n4, .int .i64 n5]) rfl (by rfl) (by rfl) (by (repeat (first | exact .head | apply Ext.tail))) (by kernel_rfl) (by kernel_rfl) (by first | decide | (simp; done)) (by rfl) ?_; intro wc hO_; clear HO; have HO := Aside0.mk hO_; clear hO_))
  refine start_ (n := 15) (S := fun W => Own w0 W ((gp, .cells #[.int .u64 a0, .int .u64 a1, .int .u64 a2, .int .u64 a3, .int .i64 a4, .int .i64 a5, .int .u64 b0, .int .u64 b1, .int .u64 b2, .int .u64 b3, .int .i64 b4, .int .i64 b5, .int .u64 c, .bool true, .int .u64 tu, .int .u64 t0, .int .u64 t1, .int .u64 n2, .int .u64 n3, .int .i64 n4, .int .i64 n5] 46 (0, 0)) :: L)) (ds := []) #[false, false, false, false, false, false, false, false, false, false, false, false, false, false, false] (by kernel_rfl) rfl rfl (Own.drew (HO.out)) (fun hHeld => ?_)
  have HO_ := Aside0.mk HO.out.drew
  clear HO
  have HO := HO_
  clear HO_
  generalize World.drew _ = wr at HO hHeld ⊢
  refine Hp.pu_ 0 28 (Hp.up 15 1) ?_
  refine Hp.pu_ 1 29 (Hp.up 15 2) ?_
  refine Hp.pu_ 2 30 (Hp.up 15 3) ?_
  refine Hp.pu_ 3 31 (Hp.up 15 4) ?_
  refine take_ (i := 4) (N := some 32) (v := .int .u64 a3) (a' := ?_) (Hp.up 15 5) rfl rfl (by kernel_rfl) (fun _ _ _ h => h) (own_yield1 (by rfl) (x := .tmp 31) rfl (by rfl) (.head) Try.underlying22 (by rfl) (by rfl)) hHeld ?_ ?_
  rotate_left
  ·simp only [Act.put, List.setIfInBounds_toArray, List.set_cons_zero, List.set_cons_succ, i64_w, i32_w]
   rfl
  refine Hp.pu_ 5 33 (Hp.up 15 6) ?_
  refine Hp.pu_ 6 34 (Hp.up 15 7) ?_
  refine Hp.pu_ 7 35 (Hp.up 15 8) ?_
  refine Hp.pu_ 8 36 (Hp.up 15 9) ?_
  refine Hp.pu_ 9 37 (Hp.up 15 10) ?_
  refine Hp.pu_ 10 38 (Hp.up 15 11) ?_
  refine Hp.pu_ 11 39 (Hp.up 15 12) ?_
  refine Hp.pu_ 12 40 (Hp.up 15 13) ?_
  refine take_ (i := 13) (N := some 41) (v := .int .u64 a3) (a' := ?_) (Hp.up 15 14) rfl rfl (by kernel_rfl) (fun _ _ _ h => h) (own_yield1 (by rfl) (x := .tmp 40) rfl (by rfl) (.head) Try.underlying22 (by rfl) (by rfl)) hHeld ?_ ?_
  rotate_left
  ·simp only [Act.put, List.setIfInBounds_toArray, List.set_cons_zero, List.set_cons_succ, i64_w, i32_w]
   rfl
  refine Hp.pu_ 14 42 (Hp.up 15 15) ?_
  refine done_ (by kernel_rfl) ?_
  clear hHeld
  by_cases c1 : (IntKind.u64.wrap (a3 * 2 ^ min (Int.tmod c tu).toNat 64) / 2 ^ min (Int.tmod c tu).toNat 64 == a3) = true
  ·skip
   rw [if_pos c1] at h
   rw [c1]
   obtain rfl := Option.some.inj h
   clear h
   try go_wp2
   refine start_ (n := 16) (S := fun W => Own w0 W ((gp, .cells #[.int .u64 a0, .int .u64 a1, .int .u64 a2, .int .u64 a3, .int .i64 a4, .int .i64 a5, .int .u64 b0, .int .u64 b1, .int .u64 b2, .int .u64 b3, .int .i64 b4, .int .i64 b5, .int .u64 c, .bool true, .int .u64 tu, .int .u64 t0, .int .u64 t1, .int .u64 n2, .int .u64 n3, .int .i64 n4, .int .i64 n5] 46 (0, 0)) :: L)) (ds := [15]) #[false, false, false, false, false, false, false, false, false, false, false, false, false, false, false, false] (by kernel_rfl) rfl rfl (Own.drew (HO.out)) (fun hHeld => ?_)
   have HO_ := Aside0.mk HO.out.drew
   clear HO
   have HO := HO_
   clear HO_
   generalize World.drew _ = wr at HO hHeld ⊢
   refine Hp.pu_ 0 43 (Hp.up 16 1) ?_
   refine Hp.pu_ 1 44 (Hp.up 16 2) ?_
   refine Hp.pu_ 2 45 (Hp.up 16 3) ?_
   refine Hp.pu_ 3 46 (Hp.up 16 4) ?_
   refine Hp.pu_ 4 47 (Hp.up 16 5) ?_
   refine take_ (i := 5) (N := some 48) (v := .int .u64 a2) (a' := ?_) (Hp.up 16 6) rfl rfl (by kernel_rfl) (fun _ _ _ h => h) (own_yield1 (by rfl) (x := .tmp 47) rfl (by rfl) (.head) Try.underlying22 (by rfl) (by rfl)) hHeld ?_ ?_
   rotate_left
   ·simp only [Act.put, List.setIfInBounds_toArray, List.set_cons_zero, List.set_cons_succ, i64_w, i32_w]
    rfl
   refine Hp.pu_ 6 49 (Hp.up 16 7) ?_
   refine Hp.pu_ 7 50 (Hp.up 16 8) ?_
   refine Hp.pu_ 8 51 (Hp.up 16 9) ?_
   refine Hp.pu_ 9 52 (Hp.up 16 10) ?_
   refine Hp.pu_ 10 53 (Hp.up 16 11) ?_
   refine Hp.pu_ 11 54 (Hp.up 16 12) ?_
   refine take_ (i := 12) (N := some 55) (v := .int .u64 a3) (a' := ?_) (Hp.up 16 13) rfl rfl (by kernel_rfl) (fun _ _ _ h => h) (own_yield1 (by rfl) (x := .tmp 54) rfl (by rfl) (.head) Try.underlying22 (by rfl) (by rfl)) hHeld ?_ ?_
   rotate_left
   ·simp only [Act.put, List.setIfInBounds_toArray, List.set_cons_zero, List.set_cons_succ, i64_w, i32_w]
    rfl
   refine Hp.pu_ 13 56 (Hp.up 16 14) ?_
   refine Hp.pu_ 14 57 (Hp.up 16 15) ?_
   refine last_ (i := 15) (N := some 58) (Hp.up 16 16) rfl rfl (by kernel_rfl) (by decide) (fun K hK => ?_)
   refine goes_ Try.func61 (by kernel_rfl) rfl #[.pointer (some ⟨gp, 0, none⟩), .int .u64 (shl .u64 a2 (Int.tmod c tu)), .int .u64 (shl .u64 a3 (Int.tmod c tu))] (by rfl) rfl rfl (by (try simp only [List.map_toArray, List.map_cons, List.map_nil]); first | done | rfl) ?_
   refine (xf_unsigned (shl .u64 a2 (Int.tmod c tu)) (shl .u64 a3 (Int.tmod c tu)) ⟨a0, a1, a2, a3, a4, a5, b0, b1, b2, b3, b4, b5, c, true, tu, t0, t1, n2, n3, n4, n5⟩ gp w0 _ L HO.out).mono ?_
   rintro e wx ⟨rfl, hO_⟩
   refine ⟨_, rfl, ?_⟩
   have hO_ : Own w0 wx ((gp, .cells #[.int .u64 a0, .int .u64 a1, .int .u64 a2, .int .u64 a3, .int .i64 a4, .int .i64 a5, .int .u64 b0, .int .u64 b1, .int .u64 b2, .int .u64 b3, .int .i64 b4, .int .i64 b5, .int .u64 c, .bool true, .int .u64 tu, .int .u64 t0, .int .u64 t1, .int .u64 (shl .u64 a2 (Int.tmod c tu)), .int .u64 (shl .u64 a3 (Int.tmod c tu)), .int .i64 n4, .int .i64 n5] 46 (0, 0)) :: L) := hO_; clear HO; have HO := Aside0.mk hO_; clear hO_
   refine hK.out _ _ ?_
   clear hK K
   refine norm_ (a' := ?_) ?_ ?_
   rotate_left
   ·show Act.put _ (some 58) _ = _
    simp only [Act.put, List.setIfInBounds_toArray, List.set_cons_zero, List.set_cons_succ, i64_w, i32_w]
    rfl
   refine done_ (by kernel_rfl) ?_
   clear hHeld
   (first | go_end0 | refine bodyPost_ret (results_none rfl _ _ _) rfl ?_)
   exact ⟨rfl, HO.out⟩
  ·skip
   rw [if_neg c1] at h
   have c1 : (IntKind.u64.wrap (a3 * 2 ^ min (Int.tmod c tu).toNat 64) / 2 ^ min (Int.tmod c tu).toNat 64 == a3) = false := by simpa using c1
   rw [c1]
   obtain rfl := Option.some.inj h
   clear h
   try go_wp2
   (first | go_end0 | refine bodyPost_ret (results_none rfl _ _ _) rfl ?_)
   exact ⟨rfl, HO.out⟩
def xf_rsh (p : XfP) : Option XfP := match p with
 | ⟨a0, a1, a2, a3, a4, a5, b0, b1, b2, b3, b4, b5, c, on, tu, n0, n1, n2, n3, n4, n5⟩ => if on = true then if tu = 0 then none else if 0 ≤ Int.tmod c tu then (tnum_Rsh.f a0 a1 (Int.tmod c tu)).bind fun t => some ⟨a0, a1, a2, a3, a4, a5, b0, b1, b2, b3, b4, b5, c, on, tu, t.1, t.2, shr .u64 a2 (Int.tmod c tu), shr .u64 a3 (Int.tmod c tu), n4, n5⟩ else none else some ⟨a0, a1, a2, a3, a4, a5, b0, b1, b2, b3, b4, b5, c, on, tu, n0, n1, 0, a3, n4, n5⟩
set_option maxHeartbeats 8000000 in
set_option maxRecDepth 100000 in
theorem xf_rsh_ok : XfOk 36 xf_rsh := by
 intro p q gp w0 w L h hO
 obtain ⟨a0, a1, a2, a3, a4, a5, b0, b1, b2, b3, b4, b5, c, on, tu, n0, n1, n2, n3, n4, n5⟩ := p
 have HO : Aside0 (Own w0 w ((gp, .cells #[.int .u64 a0, .int .u64 a1, .int .u64 a2, .int .u64 a3, .int .i64 a4, .int .i64 a5, .int .u64 b0, .int .u64 b1, .int .u64 b2, .int .u64 b3, .int .i64 b4, .int .i64 b5, .int .u64 c, .bool on, .int .u64 tu, .int .u64 n0, .int .u64 n1, .int .u64 n2, .int .u64 n3, .int .i64 n4, .int .i64 n5] 46 (0, 0)) :: L)) := ⟨hO⟩
 clear hO
 have hup := Try.underlying46
 have hun := Try.underlying26
 have hut := Try.underlying24
 have huu := Try.underlying22
 have hui := Try.underlying2
 have hub := Try.underlying4
 unfold xf_rsh at h
 dsimp only at h
 cases on with
 | false =>
  rw [if_neg Bool.false_ne_true] at h
  obtain rfl := Option.some.inj h
  clear h
  go_enter Try.func36, Try.ntmps36
  go_wp2_with (first | ((with_reducible refine gate_dst (N := 6) rfl ?_); refine own_load HO.out rfl (x := .tmp 5) (v := .bool false) rfl (by rfl) (by (repeat (first | exact .head | apply Ext.tail))) Try.underlying4 (by rfl) (by rfl) ?_) | ((with_reducible refine gate_dst (N := 13) rfl ?_); refine own_load HO.out rfl (x := .tmp 12) (v := .int .u64 a3) rfl (by rfl) (by (repeat (first | exact .head | apply Ext.tail))) Try.underlying22 (by rfl) (by rfl) ?_) | ((with_reducible refine gate_callee (f := 61) rfl ?_); (with_reducible refine gate_dst (N := 14) rfl ?_); refine goesL_ (some 14) rfl rfl Try.func61 (by kernel_rfl) rfl #[.pointer (some ⟨gp, 0, none⟩), .int .u64 0, .int .u64 a3] rfl (by (try simp only [List.map_toArray, List.map_cons, List.map_nil]); first | done | rfl) ?_; (with_reducible refine (xf_unsigned (0) (a3) ⟨a0, a1, a2, a3, a4, a5, b0, b1, b2, b3, b4, b5, c, false, tu, n0, n1, n2, n3, n4, n5⟩ gp w0 _ L HO.out).mono ?_); rintro e wx ⟨rfl, hO_⟩; refine ⟨_, rfl, ?_⟩; have hO_ : Own w0 wx ((gp, .cells #[.int .u64 a0, .int .u64 a1, .int .u64 a2, .int .u64 a3, .int .i64 a4, .int .i64 a5, .int .u64 b0, .int .u64 b1, .int .u64 b2, .int .u64 b3, .int .i64 b4, .int .i64 b5, .int .u64 c, .bool false, .int .u64 tu, .int .u64 n0, .int .u64 n1, .int .u64 0, .int .u64 a3, .int .i64 n4, .int .i64 n5] 46 (0, 0)) :: L) := hO_; clear HO; have HO := Aside0.mk hO_; clear hO_))
  (first | go_end0 | refine bodyPost_ret (results_none rfl _ _ _) rfl ?_)
  exact ⟨rfl, HO.out⟩
 | true =>
  rw [if_pos rfl] at h
  by_cases hz : tu = 0
  ·rw [if_pos hz] at h; cases h
  rw [if_neg hz] at h
  by_cases hk0 : 0 ≤ Int.tmod c tu
  rotate_left
  ·rw [if_neg hk0] at h; cases h
  rw [if_pos hk0] at h
  obtain ⟨⟨t0, t1⟩, h0, h_⟩ := Option.bind_eq_some_iff.mp h
  clear h
  have h := h_
  clear h_
  have HT : Aside0 (tnum_Rsh.f a0 a1 (Int.tmod c tu) = some (t0, t1)) := ⟨h0⟩
  clear h0
  dsimp only at h
  obtain rfl := Option.some.inj h
  clear h
  go_enter Try.func36, Try.ntmps36
  go_wp2_with (first | ((with_reducible refine gate_dst (N := 6) rfl ?_); refine own_load HO.out rfl (x := .tmp 5) (v := .bool true) rfl (by rfl) (by (repeat (first | exact .head | apply Ext.tail))) Try.underlying4 (by rfl) (by rfl) ?_))
  refine start_ (n := 10) (S := fun W => Own w0 W ((gp, .cells #[.int .u64 a0, .int .u64 a1, .int .u64 a2, .int .u64 a3, .int .i64 a4, .int .i64 a5, .int .u64 b0, .int .u64 b1, .int .u64 b2, .int .u64 b3, .int .i64 b4, .int .i64 b5, .int .u64 c, .bool true, .int .u64 tu, .int .u64 n0, .int .u64 n1, .int .u64 n2, .int .u64 n3, .int .i64 n4, .int .i64 n5] 46 (0, 0)) :: L)) (ds := []) #[false, false, false, false, false, false, false, false, false, false] (by kernel_rfl) rfl rfl (Own.drew (HO.out)) (fun hHeld => ?_)
  have HO_ := Aside0.mk HO.out.drew
  clear HO
  have HO := HO_
  clear HO_
  generalize World.drew _ = wr at HO hHeld ⊢
  refine Hp.pu_ 0 15 (Hp.up 10 1) ?_
  refine Hp.pu_ 1 16 (Hp.up 10 2) ?_
  refine Hp.pu_ 2 17 (Hp.up 10 3) ?_
  refine take_ (i := 3) (N := some 18) (v := .int .u64 c) (a' := ?_) (Hp.up 10 4) rfl rfl (by kernel_rfl) (fun _ _ _ h => h) (own_yield1 (by rfl) (x := .tmp 17) rfl (by rfl) (.head) Try.underlying22 (by rfl) (by rfl)) hHeld ?_ ?_
  rotate_left
  ·simp only [Act.put, List.setIfInBounds_toArray, List.set_cons_zero, List.set_cons_succ, i64_w, i32_w]
   rfl
  refine Hp.pu_ 4 19 (Hp.up 10 5) ?_
  refine Hp.pu_ 5 20 (Hp.up 10 6) ?_
  refine Hp.pu_ 6 21 (Hp.up 10 7) ?_
  refine take_ (i := 7) (N := some 22) (v := .int .u64 tu) (a' := ?_) (Hp.up 10 8) rfl rfl (by kernel_rfl) (fun _ _ _ h => h) (own_yield1 (by rfl) (x := .tmp 21) rfl (by rfl) (.head) Try.underlying22 (by rfl) (by rfl)) hHeld ?_ ?_
  rotate_left
  ·simp only [Act.put, List.setIfInBounds_toArray, List.set_cons_zero, List.set_cons_succ, i64_w, i32_w]
   rfl
  refine Hp.pu_ 8 23 (Hp.up 10 9) ?_
  refine Hp.pu_ 9 2 (Hp.up 10 10) ?_
  refine done_ (by kernel_rfl) ?_
  clear hHeld
  go_wp2_with (first | ((with_reducible refine gate_dst (N := 29) rfl ?_); refine own_loadN HO.out rfl (x := .tmp 28) rfl (by rfl) (by (repeat (first | exact .head | apply Ext.tail))) (vs := [.int .u64 a0, .int .u64 a1]) (by rfl) Try.underlying24 (by rfl) (by kernel_rfl) (va := #[.int .u64 a0, .int .u64 a1]) rfl ?_) | ((with_reducible refine gate_callee (f := 70) rfl ?_); (with_reducible refine gate_dst (N := 31) rfl ?_); refine goesL_ (some 31) rfl rfl Try.func70 (by kernel_rfl) rfl #[.agg #[.int .u64 a0, .int .u64 a1], .int .u64 (Int.tmod c tu)] rfl (by (try simp only [List.map_toArray, List.map_cons, List.map_nil]); first | done | rfl) ?_; (with_reducible refine (tnum_Rsh.calls a0 a1 (Int.tmod c tu) t0 t1 _ HT.out).mono ?_); rintro e wx ⟨rfl, hb⟩; refine ⟨_, rfl, ?_⟩; have hO_ := HO.out.below hb; clear hb; clear HO; have HO := Aside0.mk hO_; clear hO_) | ((with_reducible refine gate_store (p := 34) rfl ?_); refine own_storeN HO.out rfl (ty := 24) (x := .tmp 34) (y := .tmp 31) (vs := #[.int .u64 t0, .int .u64 t1]) (cs' := #[.int .u64 a0, .int .u64 a1, .int .u64 a2, .int .u64 a3, .int .i64 a4, .int .i64 a5, .int .u64 b0, .int .u64 b1, .int .u64 b2, .int .u64 b3, .int .i64 b4, .int .i64 b5, .int .u64 c, .bool true, .int .u64 tu, .int .u64 t0, .int .u64 t1, .int .u64 n2, .int .u64 n3, .int .i64 n4, .int .i64 n5]) rfl (by rfl) (by rfl) (by (repeat (first | exact .head | apply Ext.tail))) (by kernel_rfl) (by kernel_rfl) (by first | decide | (simp; done)) (by rfl) ?_; intro wc hO_; clear HO; have HO := Aside0.mk hO_; clear hO_))
  refine start_ (n := 16) (S := fun W => Own w0 W ((gp, .cells #[.int .u64 a0, .int .u64 a1, .int .u64 a2, .int .u64 a3, .int .i64 a4, .int .i64 a5, .int .u64 b0, .int .u64 b1, .int .u64 b2, .int .u64 b3, .int .i64 b4, .int .i64 b5, .int .u64 c, .bool true, .int .u64 tu, .int .u64 t0, .int .u64 t1, .int .u64 n2, .int .u64 n3, .int .i64 n4, .int .i64 n5] 46 (0, 0)) :: L)) (ds := [15]) #[false, false, false, false, false, false, false, false, false, false, false, false, false, false, false, false] (by kernel_rfl) rfl rfl (Own.drew (HO.out)) (fun hHeld => ?_)
  have HO_ := Aside0.mk HO.out.drew
  clear HO
  have HO := HO_
  clear HO_
  generalize World.drew _ = wr at HO hHeld ⊢
  refine Hp.pu_ 0 35 (Hp.up 16 1) ?_
  refine Hp.pu_ 1 36 (Hp.up 16 2) ?_
  refine Hp.pu_ 2 37 (Hp.up 16 3) ?_
  refine Hp.pu_ 3 38 (Hp.up 16 4) ?_
  refine Hp.pu_ 4 39 (Hp.up 16 5) ?_
  refine take_ (i := 5) (N := some 40) (v := .int .u64 a2) (a' := ?_) (Hp.up 16 6) rfl rfl (by kernel_rfl) (fun _ _ _ h => h) (own_yield1 (by rfl) (x := .tmp 39) rfl (by rfl) (.head) Try.underlying22 (by rfl) (by rfl)) hHeld ?_ ?_
  rotate_left
  ·simp only [Act.put, List.setIfInBounds_toArray, List.set_cons_zero, List.set_cons_succ, i64_w, i32_w]
   rfl
  refine Hp.pu_ 6 41 (Hp.up 16 7) ?_
  refine Hp.pu_ 7 42 (Hp.up 16 8) ?_
  refine Hp.pu_ 8 43 (Hp.up 16 9) ?_
  refine Hp.pu_ 9 44 (Hp.up 16 10) ?_
  refine Hp.pu_ 10 45 (Hp.up 16 11) ?_
  refine Hp.pu_ 11 46 (Hp.up 16 12) ?_
  refine take_ (i := 12) (N := some 47) (v := .int .u64 a3) (a' := ?_) (Hp.up 16 13) rfl rfl (by kernel_rfl) (fun _ _ _ h => h) (own_yield1 (by rfl) (x := .tmp 46) rfl (by rfl) (.head) Try.underlying22 (by rfl) (by rfl)) hHeld ?_ ?_
  rotate_left
  ·simp only [Act.put, List.setIfInBounds_toArray, List.set_cons_zero, List.set_cons_succ, i64_w, i32_w]
   rfl
  refine Hp.pu_ 13 48 (Hp.up 16 14) ?_
  refine Hp.pu_ 14 49 (Hp.up 16 15) ?_
  refine last_ (i := 15) (N := some 50) (Hp.up 16 16) rfl rfl (by kernel_rfl) (by decide) (fun K hK => ?_)
  refine goes_ Try.func61 (by kernel_rfl) rfl #[.pointer (some ⟨gp, 0, none⟩), .int .u64 (shr .u64 a2 (Int.tmod c tu)), .int .u64 (shr .u64 a3 (Int.tmod c tu))] (by rfl) rfl rfl (by (try simp only [List.map_toArray, List.map_cons, List.map_nil]); first | done | rfl) ?_
  refine (xf_unsigned (shr .u64 a2 (Int.tmod c tu)) (shr .u64 a3 (Int.tmod c tu)) ⟨a0, a1, a2, a3, a4, a5, b0, b1, b2, b3, b4, b5, c, true, tu, t0, t1, n2, n3, n4, n5⟩ gp w0 _ L HO.out).mono ?_
  rintro e wx ⟨rfl, hO_⟩
  refine ⟨_, rfl, ?_⟩
  have hO_ : Own w0 wx ((gp, .cells #[.int .u64 a0, .int .u64 a1, .int .u64 a2, .int .u64 a3, .int .i64 a4, .int .i64 a5, .int .u64 b0, .int .u64 b1, .int .u64 b2, .int .u64 b3, .int .i64 b4, .int .i64 b5, .int .u64 c, .bool true, .int .u64 tu, .int .u64 t0, .int .u64 t1, .int .u64 (shr .u64 a2 (Int.tmod c tu)), .int .u64 (shr .u64 a3 (Int.tmod c tu)), .int .i64 n4, .int .i64 n5] 46 (0, 0)) :: L) := hO_; clear HO; have HO := Aside0.mk hO_; clear hO_
  refine hK.out _ _ ?_
  clear hK K
  refine norm_ (a' := ?_) ?_ ?_
  rotate_left
  ·show Act.put _ (some 50) _ = _
   simp only [Act.put, List.setIfInBounds_toArray, List.set_cons_zero, List.set_cons_succ, i64_w, i32_w]
   rfl
  refine done_ (by kernel_rfl) ?_
  clear hHeld
  (first | go_end0 | refine bodyPost_ret (results_none rfl _ _ _) rfl ?_)
  exact ⟨rfl, HO.out⟩
def xf_arsh (p : XfP) : Option XfP := match p with
 | ⟨a0, a1, a2, a3, a4, a5, b0, b1, b2, b3, b4, b5, c, on, tu, n0, n1, n2, n3, n4, n5⟩ => if tu ≠ 64 then some ⟨a0, a1, a2, a3, a4, a5, b0, b1, b2, b3, b4, b5, c, on, tu, n0, n1, n2, n3, n4, n5⟩ else if on = true then if 0 ≤ Int.tmod c 64 then (tnum_Arsh.f a0 a1 (Int.tmod c 64)).bind fun t => some ⟨a0, a1, a2, a3, a4, a5, b0, b1, b2, b3, b4, b5, c, on, tu, t.1, t.2, n2, n3, shr .i64 a4 (Int.tmod c 64), shr .i64 a5 (Int.tmod c 64)⟩ else none else some ⟨a0, a1, a2, a3, a4, a5, b0, b1, b2, b3, b4, b5, c, on, tu, n0, n1, n2, n3, mn a4 0, mx a5 (-1)⟩
set_option maxHeartbeats 8000000 in
set_option maxRecDepth 100000 in
theorem xf_arsh_ok : XfOk 37 xf_arsh := by
 intro p q gp w0 w L h hO
 obtain ⟨a0, a1, a2, a3, a4, a5, b0, b1, b2, b3, b4, b5, c, on, tu, n0, n1, n2, n3, n4, n5⟩ := p
 have HO : Aside0 (Own w0 w ((gp, .cells #[.int .u64 a0, .int .u64 a1, .int .u64 a2, .int .u64 a3, .int .i64 a4, .int .i64 a5, .int .u64 b0, .int .u64 b1, .int .u64 b2, .int .u64 b3, .int .i64 b4, .int .i64 b5, .int .u64 c, .bool on, .int .u64 tu, .int .u64 n0, .int .u64 n1, .int .u64 n2, .int .u64 n3, .int .i64 n4, .int .i64 n5] 46 (0, 0)) :: L)) := ⟨hO⟩
 clear hO
 have hup := Try.underlying46
 have hun := Try.underlying26
 have hut := Try.underlying24
 have huu := Try.underlying22
 have hui := Try.underlying2
 have hub := Try.underlying4
 unfold xf_arsh at h
 dsimp only at h
 by_cases ct : tu = 64
 rotate_left
 ·skip
  rw [if_pos ct] at h
  obtain rfl := Option.some.inj h
  clear h
  have cz : (tu != 64) = true := bne_iff_ne.2 ct
  go_enter Try.func37, Try.ntmps37
  go_wp2_with (first | ((with_reducible refine gate_dst (N := 21) rfl ?_); refine own_load HO.out rfl (x := .tmp 20) (v := .int .u64 tu) rfl (by rfl) (by (repeat (first | exact .head | apply Ext.tail))) Try.underlying22 (by rfl) (by rfl) ?_))
  (first | go_end0 | refine bodyPost_ret (results_none rfl _ _ _) rfl ?_)
  exact ⟨rfl, HO.out⟩
 subst ct
 rw [if_neg (fun e => e rfl)] at h
 have cz : ((64 : Int) != 64) = false := rfl
 cases on with
 | false =>
  rw [if_neg Bool.false_ne_true] at h
  obtain rfl := Option.some.inj h
  clear h
  go_enter Try.func37, Try.ntmps37
  go_wp2_with (first | ((with_reducible refine gate_dst (N := 21) rfl ?_); refine own_load HO.out rfl (x := .tmp 20) (v := .int .u64 64) rfl (by rfl) (by (repeat (first | exact .head | apply Ext.tail))) Try.underlying22 (by rfl) (by rfl) ?_) | ((with_reducible refine gate_dst (N := 27) rfl ?_); refine own_load HO.out rfl (x := .tmp 26) (v := .bool false) rfl (by rfl) (by (repeat (first | exact .head | apply Ext.tail))) Try.underlying4 (by rfl) (by rfl) ?_))
  refine start_ (n := 14) (S := fun W => Own w0 W ((gp, .cells #[.int .u64 a0, .int .u64 a1, .int .u64 a2, .int .u64 a3, .int .i64 a4, .int .i64 a5, .int .u64 b0, .int .u64 b1, .int .u64 b2, .int .u64 b3, .int .i64 b4, .int .i64 b5, .int .u64 c, .bool false, .int .u64 64, .int .u64 n0, .int .u64 n1, .int .u64 n2, .int .u64 n3, .int .i64 n4, .int .i64 n5] 46 (0, 0)) :: L)) (ds := [13]) #[false, false, false, false, false, false, false, false, false, false, false, false, false, false] (by kernel_rfl) rfl rfl (Own.drew (HO.out)) (fun hHeld => ?_)
  have HO_ := Aside0.mk HO.out.drew
  clear HO
  have HO := HO_
  clear HO_
  generalize World.drew _ = wr at HO hHeld ⊢
  refine Hp.pu_ 0 3 (Hp.up 14 1) ?_
  refine Hp.pu_ 1 4 (Hp.up 14 2) ?_
  refine Hp.pu_ 2 5 (Hp.up 14 3) ?_
  refine Hp.pu_ 3 6 (Hp.up 14 4) ?_
  refine Hp.pu_ 4 7 (Hp.up 14 5) ?_
  refine take_ (i := 5) (N := some 8) (v := .int .i64 a4) (a' := ?_) (Hp.up 14 6) rfl rfl (by kernel_rfl) (fun _ _ _ h => h) (own_yield1 (by rfl) (x := .tmp 7) rfl (by rfl) (.head) Try.underlying2 (by rfl) (by rfl)) hHeld ?_ ?_
  rotate_left
  ·simp only [Act.put, List.setIfInBounds_toArray, List.set_cons_zero, List.set_cons_succ, i64_w, i32_w]
   rfl
  refine Hp.pu_ 6 9 (Hp.up 14 7) ?_
  refine Hp.pu_ 7 10 (Hp.up 14 8) ?_
  refine Hp.pu_ 8 11 (Hp.up 14 9) ?_
  refine Hp.pu_ 9 12 (Hp.up 14 10) ?_
  refine Hp.pu_ 10 13 (Hp.up 14 11) ?_
  refine take_ (i := 11) (N := some 14) (v := .int .i64 a5) (a' := ?_) (Hp.up 14 12) rfl rfl (by kernel_rfl) (fun _ _ _ h => h) (own_yield1 (by rfl) (x := .tmp 13) rfl (by rfl) (.head) Try.underlying2 (by rfl) (by rfl)) hHeld ?_ ?_
  rotate_left
  ·simp only [Act.put, List.setIfInBounds_toArray, List.set_cons_zero, List.set_cons_succ, i64_w, i32_w]
   rfl
  refine Hp.pu_ 12 15 (Hp.up 14 13) ?_
  refine last_ (i := 13) (N := some 16) (Hp.up 14 14) rfl rfl (by kernel_rfl) (by decide) (fun K hK => ?_)
  refine goes_ Try.func63 (by kernel_rfl) rfl #[.pointer (some ⟨gp, 0, none⟩), .int .i64 (mn a4 0), .int .i64 (mx a5 (-1))] (by rfl) rfl rfl (by (try simp only [List.map_toArray, List.map_cons, List.map_nil]); first | done | rfl) ?_
  refine (xf_signed (mn a4 0) (mx a5 (-1)) ⟨a0, a1, a2, a3, a4, a5, b0, b1, b2, b3, b4, b5, c, false, 64, n0, n1, n2, n3, n4, n5⟩ gp w0 _ L HO.out).mono ?_
  rintro e wx ⟨rfl, hO_⟩
  refine ⟨_, rfl, ?_⟩
  have hO_ : Own w0 wx ((gp, .cells #[.int .u64 a0, .int .u64 a1, .int .u64 a2, .int .u64 a3, .int .i64 a4, .int .i64 a5, .int .u64 b0, .int .u64 b1, .int .u64 b2, .int .u64 b3, .int .i64 b4, .int .i64 b5, .int .u64 c, .bool false, .int .u64 64, .int .u64 n0, .int .u64 n1, .int .u64 n2, .int .u64 n3, .int .i64 (mn a4 0), .int .i64 (mx a5 (-1))] 46 (0, 0)) :: L) := hO_; clear HO; have HO := Aside0.mk hO_; clear hO_
  refine hK.out _ _ ?_
  clear hK K
  refine norm_ (a' := ?_) ?_ ?_
  rotate_left
  ·show Act.put _ (some 16) _ = _
   simp only [Act.put, List.setIfInBounds_toArray, List.set_cons_zero, List.set_cons_succ, i64_w, i32_w]
   rfl
  refine done_ (by kernel_rfl) ?_
  clear hHeld
  (first | go_end0 | refine bodyPost_ret (results_none rfl _ _ _) rfl ?_)
  exact ⟨rfl, HO.out⟩
 | true =>
  rw [if_pos rfl] at h
  by_cases hk0 : 0 ≤ Int.tmod c 64
  rotate_left
  ·rw [if_neg hk0] at h; cases h
  rw [if_pos hk0] at h
  obtain ⟨⟨t0, t1⟩, h0, h_⟩ := Option.bind_eq_some_iff.mp h
  clear h
  have h := h_
  clear h_
  have HT : Aside0 (tnum_Arsh.f a0 a1 (Int.tmod c 64) = some (t0, t1)) := ⟨h0⟩
  clear h0
  dsimp only at h
  obtain rfl := Option.some.inj h
  clear h
  go_enter Try.func37, Try.ntmps37
  go_wp2_with (first | ((with_reducible refine gate_dst (N := 21) rfl ?_); refine own_load HO.out rfl (x := .tmp 20) (v := .int .u64 64) rfl (by rfl) (by (repeat (first | exact .head | apply Ext.tail))) Try.underlying22 (by rfl) (by rfl) ?_) | ((with_reducible refine gate_dst (N := 27) rfl ?_); refine own_load HO.out rfl (x := .tmp 26) (v := .bool true) rfl (by rfl) (by (repeat (first | exact .head | apply Ext.tail))) Try.underlying4 (by rfl) (by rfl) ?_))
  refine start_ (n := 10) (S := fun W => Own w0 W ((gp, .cells #[.int .u64 a0, .int .u64 a1, .int .u64 a2, .int .u64 a3, .int .i64 a4, .int .i64 a5, .int .u64 b0, .int .u64 b1, .int .u64 b2, .int .u64 b3, .int .i64 b4, .int .i64 b5, .int .u64 c, .bool true, .int .u64 64, .int .u64 n0, .int .u64 n1, .int .u64 n2, .int .u64 n3, .int .i64 n4, .int .i64 n5] 46 (0, 0)) :: L)) (ds := []) #[false, false, false, false, false, false, false, false, false, false] (by kernel_rfl) rfl rfl (Own.drew (HO.out)) (fun hHeld => ?_)
  have HO_ := Aside0.mk HO.out.drew
  clear HO
  have HO := HO_
  clear HO_
  generalize World.drew _ = wr at HO hHeld ⊢
  refine Hp.pu_ 0 28 (Hp.up 10 1) ?_
  refine Hp.pu_ 1 29 (Hp.up 10 2) ?_
  refine Hp.pu_ 2 30 (Hp.up 10 3) ?_
  refine take_ (i := 3) (N := some 31) (v := .int .u64 c) (a' := ?_) (Hp.up 10 4) rfl rfl (by kernel_rfl) (fun _ _ _ h => h) (own_yield1 (by rfl) (x := .tmp 30) rfl (by rfl) (.head) Try.underlying22 (by rfl) (by rfl)) hHeld ?_ ?_
  rotate_left
  ·simp only [Act.put, List.setIfInBounds_toArray, List.set_cons_zero, List.set_cons_succ, i64_w, i32_w]
   rfl
  refine Hp.pu_ 4 32 (Hp.up 10 5) ?_
  refine Hp.pu_ 5 33 (Hp.up 10 6) ?_
  refine Hp.pu_ 6 34 (Hp.up 10 7) ?_
  refine take_ (i := 7) (N := some 35) (v := .int .u64 64) (a' := ?_) (Hp.up 10 8) rfl rfl (by kernel_rfl) (fun _ _ _ h => h) (own_yield1 (by rfl) (x := .tmp 34) rfl (by rfl) (.head) Try.underlying22 (by rfl) (by rfl)) hHeld ?_ ?_
  rotate_left
  ·simp only [Act.put, List.setIfInBounds_toArray, List.set_cons_zero, List.set_cons_succ, i64_w, i32_w]
   rfl
  refine Hp.pu_ 8 36 (Hp.up 10 9) ?_
  refine Hp.pu_ 9 2 (Hp.up 10 10) ?_
  refine done_ (by kernel_rfl) ?_
  clear hHeld
  go_wp2_with (first | ((with_reducible refine gate_dst (N := 42) rfl ?_); refine own_loadN HO.out rfl (x := .tmp 41) rfl (by rfl) (by (repeat (first | exact .head | apply Ext.tail))) (vs := [.int .u64 a0, .int .u64 a1]) (by rfl) Try.underlying24 (by rfl) (by kernel_rfl) (va := #[.int .u64 a0, .int .u64 a1]) rfl ?_) | ((with_reducible refine gate_callee (f := 71) rfl ?_); (with_reducible refine gate_dst (N := 44) rfl ?_); refine goesL_ (some 44) rfl rfl Try.func71 (by kernel_rfl) rfl #[.agg #[.int .u64 a0, .int .u64 a1], .int .u64 (Int.tmod c 64)] rfl (by (try simp only [List.map_toArray, List.map_cons, List.map_nil]); first | done | rfl) ?_; (with_reducible refine (tnum_Arsh.calls a0 a1 (Int.tmod c 64) t0 t1 _ HT.out).mono ?_); rintro e wx ⟨rfl, hb⟩; refine ⟨_, rfl, ?_⟩; have hO_ := HO.out.below hb; clear hb; clear HO; have HO := Aside0.mk hO_; clear hO_) | ((with_reducible refine gate_store (p := 47) rfl ?_); refine own_storeN HO.out rfl (ty := 24) (x := .tmp 47) (y := .tmp 44) (vs := #[.int .u64 t0, .int .u64 t1]) (cs' := #[.int .u64 a0, .int .u64 a1, .int .u64 a2, .int .u64 a3, .int .i64 a4, .int .i64 a5, .int .u64 b0, .int .u64 b1, .int .u64 b2, .int .u64 b3, .int .i64 b4, .int .i64 b5, .int .u64 c, .bool true, .int .u64 64, .int .u64 t0, .int .u64 t1, .int .u64 n2, .int .u64 n3, .int .i64 n4, .int .i64 n5]) rfl (by rfl) (by rfl) (by (repeat (first | exact .head | apply Ext.tail))) (by kernel_rfl) (by kernel_rfl) (by first | decide | (simp; done)) (by rfl) ?_; intro wc hO_; clear HO; have HO := Aside0.mk hO_; clear hO_))
  refine start_ (n := 16) (S := fun W => Own w0 W ((gp, .cells #[.int .u64 a0, .int .u64 a1, .int .u64 a2, .int .u64 a3, .int .i64 a4, .int .i64 a5, .int .u64 b0, .int .u64 b1, .int .u64 b2, .int .u64 b3, .int .i64 b4, .int .i64 b5, .int .u64 c, .bool true, .int .u64 64, .int .u64 t0, .int .u64 t1, .int .u64 n2, .int .u64 n3, .int .i64 n4, .int .i64 n5] 46 (0, 0)) :: L)) (ds := [15]) #[false, false, false, false, false, false, false, false, false, false, false, false, false, false, false, false] (by kernel_rfl) rfl rfl (Own.drew (HO.out)) (fun hHeld => ?_)
  have HO_ := Aside0.mk HO.out.drew
  clear HO
  have HO := HO_
  clear HO_
  generalize World.drew _ = wr at HO hHeld ⊢
  refine Hp.pu_ 0 48 (Hp.up 16 1) ?_
  refine Hp.pu_ 1 49 (Hp.up 16 2) ?_
  refine Hp.pu_ 2 50 (Hp.up 16 3) ?_
  refine Hp.pu_ 3 51 (Hp.up 16 4) ?_
  refine Hp.pu_ 4 52 (Hp.up 16 5) ?_
  refine take_ (i := 5) (N := some 53) (v := .int .i64 a4) (a' := ?_) (Hp.up 16 6) rfl rfl (by kernel_rfl) (fun _ _ _ h => h) (own_yield1 (by rfl) (x := .tmp 52) rfl (by rfl) (.head) Try.underlying2 (by rfl) (by rfl)) hHeld ?_ ?_
  rotate_left
  ·simp only [Act.put, List.setIfInBounds_toArray, List.set_cons_zero, List.set_cons_succ, i64_w, i32_w]
   rfl
  refine Hp.pu_ 6 54 (Hp.up 16 7) ?_
  refine Hp.pu_ 7 55 (Hp.up 16 8) ?_
  refine Hp.pu_ 8 56 (Hp.up 16 9) ?_
  refine Hp.pu_ 9 57 (Hp.up 16 10) ?_
  refine Hp.pu_ 10 58 (Hp.up 16 11) ?_
  refine Hp.pu_ 11 59 (Hp.up 16 12) ?_
  refine take_ (i := 12) (N := some 60) (v := .int .i64 a5) (a' := ?_) (Hp.up 16 13) rfl rfl (by kernel_rfl) (fun _ _ _ h => h) (own_yield1 (by rfl) (x := .tmp 59) rfl (by rfl) (.head) Try.underlying2 (by rfl) (by rfl)) hHeld ?_ ?_
  rotate_left
  ·simp only [Act.put, List.setIfInBounds_toArray, List.set_cons_zero, List.set_cons_succ, i64_w, i32_w]
   rfl
  refine Hp.pu_ 13 61 (Hp.up 16 14) ?_
  refine Hp.pu_ 14 62 (Hp.up 16 15) ?_
  refine last_ (i := 15) (N := some 63) (Hp.up 16 16) rfl rfl (by kernel_rfl) (by decide) (fun K hK => ?_)
  refine goes_ Try.func63 (by kernel_rfl) rfl #[.pointer (some ⟨gp, 0, none⟩), .int .i64 (shr .i64 a4 (Int.tmod c 64)), .int .i64 (shr .i64 a5 (Int.tmod c 64))] (by rfl) rfl rfl (by (try simp only [List.map_toArray, List.map_cons, List.map_nil]); first | done | rfl) ?_
  refine (xf_signed (shr .i64 a4 (Int.tmod c 64)) (shr .i64 a5 (Int.tmod c 64)) ⟨a0, a1, a2, a3, a4, a5, b0, b1, b2, b3, b4, b5, c, true, 64, t0, t1, n2, n3, n4, n5⟩ gp w0 _ L HO.out).mono ?_
  rintro e wx ⟨rfl, hO_⟩
  refine ⟨_, rfl, ?_⟩
  have hO_ : Own w0 wx ((gp, .cells #[.int .u64 a0, .int .u64 a1, .int .u64 a2, .int .u64 a3, .int .i64 a4, .int .i64 a5, .int .u64 b0, .int .u64 b1, .int .u64 b2, .int .u64 b3, .int .i64 b4, .int .i64 b5, .int .u64 c, .bool true, .int .u64 64, .int .u64 t0, .int .u64 t1, .int .u64 n2, .int .u64 n3, .int .i64 (shr .i64 a4 (Int.tmod c 64)), .int .i64 (shr .i64 a5 (Int.tmod c 64))] 46 (0, 0)) :: L) := hO_; clear HO; have HO := Aside0.mk hO_; clear hO_
  refine hK.out _ _ ?_
  clear hK K
  refine norm_ (a' := ?_) ?_ ?_
  rotate_left
  ·show Act.put _ (some 63) _ = _
   simp only [Act.put, List.setIfInBounds_toArray, List.set_cons_zero, List.set_cons_succ, i64_w, i32_w]
   rfl
  refine done_ (by kernel_rfl) ?_
  clear hHeld
  (first | go_end0 | refine bodyPost_ret (results_none rfl _ _ _) rfl ?_)
  exact ⟨rfl, HO.out⟩
def xf_neg (p : XfP) : Option XfP := match p with
 | ⟨a0, a1, a2, a3, a4, a5, b0, b1, b2, b3, b4, b5, c, on, tu, n0, n1, n2, n3, n4, n5⟩ => (num_Const.f 0).bind fun e => xf_sub ⟨e.1, e.2.1, e.2.2.1, e.2.2.2.1, e.2.2.2.2.1, e.2.2.2.2.2, a0, a1, a2, a3, a4, a5, c, on, tu, n0, n1, n2, n3, n4, n5⟩
set_option maxHeartbeats 8000000 in
set_option maxRecDepth 100000 in
theorem xf_neg_ok : XfOk 38 xf_neg := by
 intro p q gp w0 w L h hO
 obtain ⟨a0, a1, a2, a3, a4, a5, b0, b1, b2, b3, b4, b5, c, on, tu, n0, n1, n2, n3, n4, n5⟩ := p
 have HO : Aside0 (Own w0 w ((gp, .cells #[.int .u64 a0, .int .u64 a1, .int .u64 a2, .int .u64 a3, .int .i64 a4, .int .i64 a5, .int .u64 b0, .int .u64 b1, .int .u64 b2, .int .u64 b3, .int .i64 b4, .int .i64 b5, .int .u64 c, .bool on, .int .u64 tu, .int .u64 n0, .int .u64 n1, .int .u64 n2, .int .u64 n3, .int .i64 n4, .int .i64 n5] 46 (0, 0)) :: L)) := ⟨hO⟩
 clear hO
 have hup := Try.underlying46
 have hun := Try.underlying26
 have hut := Try.underlying24
 have huu := Try.underlying22
 have hui := Try.underlying2
 have hub := Try.underlying4
 unfold xf_neg at h
 dsimp only at h
 obtain ⟨⟨e0, e1, e2, e3, e4, e5⟩, h0, h_⟩ := Option.bind_eq_some_iff.mp h
 clear h
 have h := h_
 clear h_
 have HC : Aside0 (num_Const.f 0 = some (e0, e1, e2, e3, e4, e5)) := ⟨h0⟩
 clear h0
 dsimp only at h
 have HS := Aside0.mk h
 clear h
 go_enter Try.func38, Try.ntmps38
 try go_wp2
 refine start_ (n := 13) (S := fun W => Own w0 W ((gp, .cells #[.int .u64 a0, .int .u64 a1, .int .u64 a2, .int .u64 a3, .int .i64 a4, .int .i64 a5, .int .u64 b0, .int .u64 b1, .int .u64 b2, .int .u64 b3, .int .i64 b4, .int .i64 b5, .int .u64 c, .bool on, .int .u64 tu, .int .u64 n0, .int .u64 n1, .int .u64 n2, .int .u64 n3, .int .i64 n4, .int .i64 n5] 46 (0, 0)) :: L)) (ds := [9, 12]) #[false, false, false, false, false, false, false, false, false, false, false, false, false] (by kernel_rfl) rfl rfl (Own.drew (HO.out)) (fun hHeld => ?_)
 have HO_ := Aside0.mk HO.out.drew
 clear HO
 have HO := HO_
 clear HO_
 generalize World.drew _ = wr at HO hHeld ⊢
 refine Hp.pu_ 0 2 (Hp.up 13 1) ?_
 refine Hp.pu_ 1 3 (Hp.up 13 2) ?_
 refine Hp.pu_ 2 4 (Hp.up 13 3) ?_
 refine Hp.pu_ 3 5 (Hp.up 13 4) ?_
 refine Hp.pu_ 4 6 (Hp.up 13 5) ?_
 refine take_ (i := 5) (N := some 7) (v := .agg #[.int .u64 a0, .int .u64 a1, .int .u64 a2, .int .u64 a3, .int .i64 a4, .int .i64 a5]) (a' := ?_) (Hp.up 13 6) rfl rfl (by kernel_rfl) (fun _ _ _ h => h) (own_yieldN (by rfl) (x := .tmp 6) rfl (by rfl) (.head) (vs := [.int .u64 a0, .int .u64 a1, .int .u64 a2, .int .u64 a3, .int .i64 a4, .int .i64 a5]) (by rfl) Try.underlying26 (by rfl) (by kernel_rfl) rfl) hHeld ?_ ?_
 rotate_left
 ·simp only [Act.put, List.setIfInBounds_toArray, List.set_cons_zero, List.set_cons_succ, i64_w, i32_w]
  rfl
 refine one_ (i := 6) (N := some 8) (Hp.up 13 7) rfl rfl (by kernel_rfl) (by decide) (fun K hK => ?_)
 refine goes_ Try.func18 (by kernel_rfl) rfl #[.int .u64 0] (by rfl) rfl rfl (by (try simp only [List.map_toArray, List.map_cons, List.map_nil]); first | done | rfl) ?_
 refine (num_Const.calls 0 e0 e1 e2 e3 e4 e5 _ HC.out).mono ?_
 rintro e wx ⟨rfl, hb⟩
 refine ⟨_, rfl, ?_⟩
 have hO_ := HO.out.below hb
 clear hb
 clear HO; have HO := Aside0.mk hO_; clear hO_
 refine hK.out _ _ (HO.out) (fun hHeld => ?_)
 clear hK K
 refine norm_ (a' := ?_) ?_ ?_
 rotate_left
 ·show Act.put _ (some 8) _ = _
  simp only [Act.put, List.setIfInBounds_toArray, List.set_cons_zero, List.set_cons_succ, i64_w, i32_w]
  rfl
 refine Hp.pu_ 7 9 (Hp.up 13 8) ?_
 refine Hp.pu_ 8 10 (Hp.up 13 9) ?_
 refine last_ (i := 9) (N := none) (Hp.up 13 10) rfl rfl (by kernel_rfl) (by decide) (fun K hK => ?_)
 refine own_storeN_k HO.out (by rfl) rfl (ty := 26) (x := .tmp 10) (y := .tmp 7) (vs := #[.int .u64 a0, .int .u64 a1, .int .u64 a2, .int .u64 a3, .int .i64 a4, .int .i64 a5]) (cs' := #[.int .u64 a0, .int .u64 a1, .int .u64 a2, .int .u64 a3, .int .i64 a4, .int .i64 a5, .int .u64 a0, .int .u64 a1, .int .u64 a2, .int .u64 a3, .int .i64 a4, .int .i64 a5, .int .u64 c, .bool on, .int .u64 tu, .int .u64 n0, .int .u64 n1, .int .u64 n2, .int .u64 n3, .int .i64 n4, .int .i64 n5]) rfl (by rfl) (by rfl) (by (repeat (first | exact .head | apply Ext.tail))) (by kernel_rfl) (by kernel_rfl) (by first | decide | (simp; done)) (by rfl) ?_
 intro wc hO_
 clear HO; have HO := Aside0.mk hO_; clear hO_
 refine hK.out _ _ ?_
 clear hK K
 refine Hp.pu_ 10 11 (Hp.up 13 11) ?_
 refine Hp.pu_ 11 12 (Hp.up 13 12) ?_
 refine last_ (i := 12) (N := none) (Hp.up 13 13) rfl rfl (by kernel_rfl) (by decide) (fun K hK => ?_)
 refine own_storeN_k HO.out (by rfl) rfl (ty := 26) (x := .tmp 12) (y := .tmp 8) (vs := #[.int .u64 e0, .int .u64 e1, .int .u64 e2, .int .u64 e3, .int .i64 e4, .int .i64 e5]) (cs' := #[.int .u64 e0, .int .u64 e1, .int .u64 e2, .int .u64 e3, .int .i64 e4, .int .i64 e5, .int .u64 a0, .int .u64 a1, .int .u64 a2, .int .u64 a3, .int .i64 a4, .int .i64 a5, .int .u64 c, .bool on, .int .u64 tu, .int .u64 n0, .int .u64 n1, .int .u64 n2, .int .u64 n3, .int .i64 n4, .int .i64 n5]) rfl (by rfl) (by rfl) (by (repeat (first | exact .head | apply Ext.tail))) (by kernel_rfl) (by kernel_rfl) (by first | decide | (simp; done)) (by rfl) ?_
 intro wc hO_
 clear HO; have HO := Aside0.mk hO_; clear hO_
 refine hK.out _ _ ?_
 clear hK K
 refine done_ (by kernel_rfl) ?_
 clear hHeld
 go_wp2_with (first | ((with_reducible refine gate_callee (f := 28) rfl ?_); (with_reducible refine gate_dst (N := 14) rfl ?_); refine goesL_ (some 14) rfl rfl Try.func28 (by kernel_rfl) rfl #[.pointer (some ⟨gp, 0, none⟩)] rfl (by (try simp only [List.map_toArray, List.map_cons, List.map_nil]); first | done | rfl) ?_; (with_reducible refine (XfOk.go xf_sub_ok _ q gp w0 _ L HS.out HO.out).mono ?_); rintro e wx ⟨rfl, hO_⟩; refine ⟨_, rfl, ?_⟩; clear HO; have HO := Aside0.mk hO_; clear hO_))
 (first | go_end0 | refine bodyPost_ret (results_none rfl _ _ _) rfl ?_)
 exact ⟨rfl, HO.out⟩
def xf_mov (p : XfP) : Option XfP := match p with
 | ⟨a0, a1, a2, a3, a4, a5, b0, b1, b2, b3, b4, b5, c, on, tu, n0, n1, n2, n3, n4, n5⟩ => some ⟨a0, a1, a2, a3, a4, a5, b0, b1, b2, b3, b4, b5, c, on, tu, b0, b1, b2, b3, b4, b5⟩
set_option maxHeartbeats 8000000 in
set_option maxRecDepth 100000 in
theorem xf_mov_ok : XfOk 39 xf_mov := by
 intro p q gp w0 w L h hO
 obtain ⟨a0, a1, a2, a3, a4, a5, b0, b1, b2, b3, b4, b5, c, on, tu, n0, n1, n2, n3, n4, n5⟩ := p
 have HO : Aside0 (Own w0 w ((gp, .cells #[.int .u64 a0, .int .u64 a1, .int .u64 a2, .int .u64 a3, .int .i64 a4, .int .i64 a5, .int .u64 b0, .int .u64 b1, .int .u64 b2, .int .u64 b3, .int .i64 b4, .int .i64 b5, .int .u64 c, .bool on, .int .u64 tu, .int .u64 n0, .int .u64 n1, .int .u64 n2, .int .u64 n3, .int .i64 n4, .int .i64 n5] 46 (0, 0)) :: L)) := ⟨hO⟩
 clear hO
 have hup := Try.underlying46
 have hun := Try.underlying26
 have hut := Try.underlying24
 have huu := Try.underlying22
 have hui := Try.underlying2
 have hub := Try.underlying4
 unfold xf_mov at h
 dsimp only at h
 obtain rfl := Option.some.inj h
 clear h
 go_enter Try.func39, Try.ntmps39
 go_wp2_with (first | ((with_reducible refine gate_dst (N := 6) rfl ?_); refine own_loadN HO.out rfl (x := .tmp 5) rfl (by rfl) (by (repeat (first | exact .head | apply Ext.tail))) (vs := [.int .u64 b0, .int .u64 b1, .int .u64 b2, .int .u64 b3, .int .i64 b4, .int .i64 b5]) (by rfl) Try.underlying26 (by rfl) (by kernel_rfl) (va := #[.int .u64 b0, .int .u64 b1, .int .u64 b2, .int .u64 b3, .int .i64 b4, .int .i64 b5]) rfl ?_) | ((with_reducible refine gate_store (p := 8) rfl ?_); refine own_storeN HO.out rfl (ty := 26) (x := .tmp 8) (y := .tmp 6) (vs := #[.int .u64 b0, .int .u64 b1, .int .u64 b2, .int .u64 b3, .int .i64 b4, .int .i64 b5]) (cs' := #[.int .u64 a0, .int .u64 a1, .int .u64 a2, .int .u64 a3, .int .i64 a4, .int .i64 a5, .int .u64 b0, .int .u64 b1, .int .u64 b2, .int .u64 b3, .int .i64 b4, .int .i64 b5, .int .u64 c, .bool on, .int .u64 tu, .int .u64 b0, .int .u64 b1, .int .u64 b2, .int .u64 b3, .int .i64 b4, .int .i64 b5]) rfl (by rfl) (by rfl) (by (repeat (first | exact .head | apply Ext.tail))) (by kernel_rfl) (by kernel_rfl) (by first | decide | (simp; done)) (by rfl) ?_; intro wc hO_; clear HO; have HO := Aside0.mk hO_; clear hO_))
 (first | go_end0 | refine bodyPost_ret (results_none rfl _ _ _) rfl ?_)
 exact ⟨rfl, HO.out⟩


end Go.Proofs.Ytkgmdcibjjkhlaa.PXferSound
