/- The law XferSound holds for all its arguments: the given statement, out of the plain law and the walks of the functions; no conditions. -/
import Derived.Test.YtkgmdcibjjkhlaaRows
import Derived.Test.YtkgmdcibjjkhlaaPXferSoundx11
import Derived.Test.YtkgmdcibjjkhlaaPureXferSound
import Derived.Test.YtkgmdcibjjkhlaaVRD
import Derived.SizedLaws
import Derived.ChangeSlices
import Derived.WalkKit
import Derived.ProofKit
import Derived.OpenShut
import Derived.ShutString
import Derived.ChangeOld
import Derived.Below
namespace Go.Proofs.Ytkgmdcibjjkhlaa.xferSound
open Go.ChangeShapes Go.WideShapes Go.ChangeAt Go.RowKit Go.Proofs.Ytkgmdcibjjkhlaa.PXferSound Go.Proofs.YtkgmdcibjjkhlaaW.PrintWords Go.Proofs.YtkgmdcibjjkhlaaW.PrintLast Go.Proofs.YtkgmdcibjjkhlaaW.PrintMore
open Go.ChangeMaps (open_string shut_string)
set_option linter.unusedVariables false
theorem own : ownKnob Try.prog.godebug = none := by kernel_rfl
theorem laidOut : laidOutB Try.prog = true := by kernel_rfl
theorem opens_22 : RD.Opens Try.prog 22 (Kd.int .u64) (fun x => (Lit.int .u64 x).wf = true) := RD.opens_int Try.underlying22 (by kernel_rfl)
theorem opens_24 : RD.Opens Try.prog 24 k24 (fun x => ((Lit.int .u64 x.f0).wf = true) ∧ ((Lit.int .u64 x.f1).wf = true)) := by
  have h := RD.opens_struct (P := Try.prog) (t := 24) (d := (Kd.pair (Kd.int .u64) (Kd.int .u64))) (Q := fun x => ((Lit.int .u64 x.1).wf = true) ∧ ((Lit.int .u64 x.2).wf = true)) Try.underlying24 (by kernel_rfl) (RD.opensF_cons (d0 := (Kd.int .u64)) (d1 := (Kd.int .u64)) (Q0 := fun x => (Lit.int .u64 x).wf = true) (Q1 := fun x => (Lit.int .u64 x).wf = true) (by rfl) (by kernel_rfl) opens_22 (RD.opensF_one (by rfl) (by kernel_rfl) opens_22))
  exact RD.opens_iso (fun x : S24 => (x.f0, x.f1)) (fun a => ⟨a.1, a.2⟩) (fun _ => rfl) h
theorem opens_2 : RD.Opens Try.prog 2 (Kd.int .i64) (fun x => (Lit.int .i64 x).wf = true) := RD.opens_int Try.underlying2 (by kernel_rfl)
theorem opens_26 : RD.Opens Try.prog 26 k26 (fun x => (((Lit.int .u64 x.f0.f0).wf = true) ∧ ((Lit.int .u64 x.f0.f1).wf = true)) ∧ ((Lit.int .u64 x.f1).wf = true) ∧ ((Lit.int .u64 x.f2).wf = true) ∧ ((Lit.int .i64 x.f3).wf = true) ∧ ((Lit.int .i64 x.f4).wf = true)) := by
  have h := RD.opens_struct (P := Try.prog) (t := 26) (d := (Kd.pair k24 (Kd.pair (Kd.int .u64) (Kd.pair (Kd.int .u64) (Kd.pair (Kd.int .i64) (Kd.int .i64)))))) (Q := fun x => (((Lit.int .u64 x.1.f0).wf = true) ∧ ((Lit.int .u64 x.1.f1).wf = true)) ∧ (((Lit.int .u64 x.2.1).wf = true) ∧ (((Lit.int .u64 x.2.2.1).wf = true) ∧ (((Lit.int .i64 x.2.2.2.1).wf = true) ∧ ((Lit.int .i64 x.2.2.2.2).wf = true))))) Try.underlying26 (by kernel_rfl) (RD.opensF_cons (d0 := k24) (d1 := (Kd.pair (Kd.int .u64) (Kd.pair (Kd.int .u64) (Kd.pair (Kd.int .i64) (Kd.int .i64))))) (Q0 := fun x => ((Lit.int .u64 x.f0).wf = true) ∧ ((Lit.int .u64 x.f1).wf = true)) (Q1 := fun x => ((Lit.int .u64 x.1).wf = true) ∧ (((Lit.int .u64 x.2.1).wf = true) ∧ (((Lit.int .i64 x.2.2.1).wf = true) ∧ ((Lit.int .i64 x.2.2.2).wf = true)))) (by rfl) (by kernel_rfl) opens_24 (RD.opensF_cons (d0 := (Kd.int .u64)) (d1 := (Kd.pair (Kd.int .u64) (Kd.pair (Kd.int .i64) (Kd.int .i64)))) (Q0 := fun x => (Lit.int .u64 x).wf = true) (Q1 := fun x => ((Lit.int .u64 x.1).wf = true) ∧ (((Lit.int .i64 x.2.1).wf = true) ∧ ((Lit.int .i64 x.2.2).wf = true))) (by rfl) (by kernel_rfl) opens_22 (RD.opensF_cons (d0 := (Kd.int .u64)) (d1 := (Kd.pair (Kd.int .i64) (Kd.int .i64))) (Q0 := fun x => (Lit.int .u64 x).wf = true) (Q1 := fun x => ((Lit.int .i64 x.1).wf = true) ∧ ((Lit.int .i64 x.2).wf = true)) (by rfl) (by kernel_rfl) opens_22 (RD.opensF_cons (d0 := (Kd.int .i64)) (d1 := (Kd.int .i64)) (Q0 := fun x => (Lit.int .i64 x).wf = true) (Q1 := fun x => (Lit.int .i64 x).wf = true) (by rfl) (by kernel_rfl) opens_2 (RD.opensF_one (by rfl) (by kernel_rfl) opens_2)))))
  exact RD.opens_iso (fun x : S26 => (x.f0, x.f1, x.f2, x.f3, x.f4)) (fun a => ⟨a.1, a.2.1, a.2.2.1, a.2.2.2.1, a.2.2.2.2⟩) (fun _ => rfl) h
set_option maxRecDepth 100000 in
theorem lifted (os : Os) (started : os.Started) (H : Type) (enc : TypeId × Value → H) :
    ReturnsInHanded {} Try.checked os 4 .any (Rows.xferSoundSpec.pre6 enc Try.prog Try.f4 Rows.xferSoundRow.domain false) (Rows.xferSoundSpec.post enc Try.prog Try.f4 false true false false) := by
  refine returnsInHanded_of_change_sized (C := Try.checked) own started (by kernel_rfl) Try.func4
    (ChangeSpec.witness6 (enc := enc) (C := Try.checked) false ⟨#[], #[.int .u8 0, .bool false, .agg #[.int .u64 0, .int .u64 0, .int .u64 0, .int .u64 0, .int .i64 0, .int .i64 0], .agg #[.int .u64 0, .int .u64 0, .int .u64 0, .int .u64 0, .int .i64 0, .int .i64 0], .int .u64 0, .int .u64 0], []⟩ 16 (by kernel_rfl) (by kernel_rfl) (by kernel_rfl) (by kernel_rfl)) ?_
  intro W base args ds gs before hval0 hW hcnd hsz0 _
  have hsz : (DataW.weightsEach Try.prog (Try.f4.params.toList ++ Rows.xferSoundSpec.plain.varTypes Try.prog) (ds ++ gs)).all (· ≤ reachBytes) = true := hsz0
  have hval : ∀ (j : Nat) t v, Try.f4.params[j]? = some t → args[j]? = some v → Value.okWide Try.prog W .any base t v := hval0
  have hW' := hW
  obtain ⟨p, q, hA0, hV, rfl, hfz, hnd⟩ := hW
  have hA : DataW.TrodAll enc Try.prog W 0 (fun _ => true) true Try.f4.params.toList args.toList ds p := hA0
  rw [Try.params4] at hA hval hsz
  obtain ⟨v0, vs0, d0, ds0, p0, q0, hargs, rfl, rfl, h0, r0⟩ := trodAll_cons hA
  obtain ⟨v1, vs1, d1, ds1, p1, q1, rfl, rfl, rfl, h1, r1⟩ := trodAll_cons r0
  obtain ⟨v2, vs2, d2, ds2, p2, q2, rfl, rfl, rfl, h2, r2⟩ := trodAll_cons r1
  obtain ⟨v3, vs3, d3, ds3, p3, q3, rfl, rfl, rfl, h3, r3⟩ := trodAll_cons r2
  obtain ⟨v4, vs4, d4, ds4, p4, q4, rfl, rfl, rfl, h4, r4⟩ := trodAll_cons r3
  obtain ⟨v5, vs5, d5, ds5, p5, q5, rfl, rfl, rfl, h5, r5⟩ := trodAll_cons r4
  obtain ⟨rfl, rfl, rfl⟩ := trodAll_nil r5
  obtain rfl : args = #[v0, v1, v2, v3, v4, v5] := by cases args; simp_all
  obtain ⟨rfl, rfl⟩ := trodVars_none hV
  obtain ⟨a0, rfl, rfl, rfl, w0⟩ := open_int Try.underlying5 (hval 0 5 v0 rfl rfl) h0
  obtain ⟨a1, rfl, rfl, rfl⟩ := open_bool Try.underlying4 (hval 1 4 v1 rfl rfl) h1
  have k2 := h2
  have lt2 : ∀ x ∈ p2, x.block < W.heap.size := by obtain ⟨m, hm⟩ := k2; exact DataW.trod_lt m _ _ _ hm
  obtain ⟨x2, K2, w2⟩ := opens_26.arg hsz (j := 2) rfl rfl h2
  obtain ⟨cs2, rfl, _⟩ := okWide_struct Try.underlying26 (hval 2 26 v2 rfl rfl)
  obtain e2 := k26_open K2
  obtain rfl : cs2 = #[.int .u64 x2.f0.f0, .int .u64 x2.f0.f1, .int .u64 x2.f1, .int .u64 x2.f2, .int .i64 x2.f3, .int .i64 x2.f4] := Array.toList_inj.1 e2
  have k3 := h3
  have lt3 : ∀ x ∈ p3, x.block < W.heap.size := by obtain ⟨m, hm⟩ := k3; exact DataW.trod_lt m _ _ _ hm
  obtain ⟨x3, K3, w3⟩ := opens_26.arg hsz (j := 3) rfl rfl h3
  obtain ⟨cs3, rfl, _⟩ := okWide_struct Try.underlying26 (hval 3 26 v3 rfl rfl)
  obtain e3 := k26_open K3
  obtain rfl : cs3 = #[.int .u64 x3.f0.f0, .int .u64 x3.f0.f1, .int .u64 x3.f1, .int .u64 x3.f2, .int .i64 x3.f3, .int .i64 x3.f4] := Array.toList_inj.1 e3
  obtain ⟨a4, rfl, rfl, rfl, w4⟩ := open_int Try.underlying22 (hval 4 22 v4 rfl rfl) h4
  obtain ⟨a5, rfl, rfl, rfl, w5⟩ := open_int Try.underlying22 (hval 5 22 v5 rfl rfl) h5
  clear hA0 hval0 hsz0 hsz
  obtain ⟨k, h⟩ := Pure.XferSound a0 a1 x2.f0.f0 x2.f0.f1 x2.f1 x2.f2 x2.f3 x2.f4 x3.f0.f0 x3.f0.f1 x3.f1 x3.f2 x3.f3 x3.f4 a4 a5 w0 w2 w3 w4 w5
  refine (halberdlaw08_XferSound.calls (r := true) (w := W) (hr_ := ⟨rfl⟩)  (h := h)).mono fun e W' hh => ?_
  obtain ⟨he, bel0⟩ := hh
  have bel : Below W.heap.size W W' := bel0
  subst he
  exact ⟨_, rfl, _, _, _, [], _, [], hW', trodAll_mk1 (shut_bool Try.underlying4 _), (trodAll_cons_mk (shut_int Try.underlying5 w0) (trodAll_cons_mk (shut_bool Try.underlying4 _) (trodAll_cons_mk (Below.trod laidOut (by kernel_rfl) (of_decide_eq_true (by kernel_rfl)) k2 bel lt2) (trodAll_cons_mk (Below.trod laidOut (by kernel_rfl) (of_decide_eq_true (by kernel_rfl)) k3 bel lt3) (trodAll_cons_mk (shut_int Try.underlying22 w4) (trodAll_cons_mk (shut_int Try.underlying22 w5) trodAll_mk0)))))), rfl, bel.frame _, fun h => by cases h⟩
theorem over : Rows.xferSoundRow.holds Try.pinned (OpenSpec.ofChange Rows.xferSoundSpec) :=
  OpenClaim.holds_of_wide 4 Try.f4 rfl rfl rfl rfl rfl rfl rfl ⟨rfl, rfl, rfl, rfl, rfl⟩ rfl rfl rfl rfl rfl (by kernel_rfl) Try.func4 (by kernel_rfl)
    (of_decide_eq_true (by kernel_rfl)) (by unfold Func.isWrapper; first | (rw [if_pos (by decide +kernel)]; kernel_rfl) | (rw [if_neg (by decide +kernel)]; exact ⟨rfl, rfl⟩))
    (fun os started H enc _ => lifted os started H enc)
theorem proved : Rows.XferSoundSaid := over
#print axioms proved
end Go.Proofs.Ytkgmdcibjjkhlaa.xferSound
namespace Go.Proofs.Ytkgmdcibjjkhlaa
/-- The row, under a short name, for the claim. -/
theorem xferSound_holds : Rows.XferSoundSaid := xferSound.proved
end Go.Proofs.Ytkgmdcibjjkhlaa
