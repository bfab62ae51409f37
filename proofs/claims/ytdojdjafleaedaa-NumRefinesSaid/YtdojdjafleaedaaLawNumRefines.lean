/- The law NumRefines holds for all its arguments: the given statement, out of the plain law and the walks of the functions; no conditions. -/
import Derived.Test.YtdojdjafleaedaaRows
import Derived.Test.YtdojdjafleaedaaPNumRefinesx7
import Derived.Test.YtdojdjafleaedaaPureNumRefines
import Derived.Test.YtdojdjafleaedaaVRD
import Derived.SizedLaws
import Derived.ChangeSlices
import Derived.WalkKit
import Derived.ProofKit
import Derived.OpenShut
import Derived.ShutString
import Derived.ChangeOld
import Derived.Below
namespace Go.Proofs.Ytdojdjafleaedaa.numRefines
open Go.ChangeShapes Go.WideShapes Go.ChangeAt Go.RowKit Go.Proofs.Ytdojdjafleaedaa.PNumRefines Go.Proofs.YtdojdjafleaedaaW.PrintWords Go.Proofs.YtdojdjafleaedaaW.PrintLast Go.Proofs.YtdojdjafleaedaaW.PrintMore
open Go.ChangeMaps (open_string shut_string)
set_option linter.unusedVariables false
theorem own : ownKnob Try.prog.godebug = none := by kernel_rfl
theorem laidOut : laidOutB Try.prog = true := by kernel_rfl
theorem opens_22 : RD.Opens Try.prog 22 (Kd.int .u64) (fun x => (Lit.int .u64 x).wf = true) := RD.opens_int Try.underlying22 (by kernel_rfl)
theorem opens_34 : RD.Opens Try.prog 34 k34 (fun x => ((Lit.int .u64 x.f0).wf = true) ∧ ((Lit.int .u64 x.f1).wf = true)) := by
  have h := RD.opens_struct (P := Try.prog) (t := 34) (d := (Kd.pair (Kd.int .u64) (Kd.int .u64))) (Q := fun x => ((Lit.int .u64 x.1).wf = true) ∧ ((Lit.int .u64 x.2).wf = true)) Try.underlying34 (by kernel_rfl) (RD.opensF_cons (d0 := (Kd.int .u64)) (d1 := (Kd.int .u64)) (Q0 := fun x => (Lit.int .u64 x).wf = true) (Q1 := fun x => (Lit.int .u64 x).wf = true) (by rfl) (by kernel_rfl) opens_22 (RD.opensF_one (by rfl) (by kernel_rfl) opens_22))
  exact RD.opens_iso (fun x : S34 => (x.f0, x.f1)) (fun a => ⟨a.1, a.2⟩) (fun _ => rfl) h
theorem opens_2 : RD.Opens Try.prog 2 (Kd.int .i64) (fun x => (Lit.int .i64 x).wf = true) := RD.opens_int Try.underlying2 (by kernel_rfl)
theorem opens_36 : RD.Opens Try.prog 36 k36 (fun x => (((Lit.int .u64 x.f0.f0).wf = true) ∧ ((Lit.int .u64 x.f0.f1).wf = true)) ∧ ((Lit.int .u64 x.f1).wf = true) ∧ ((Lit.int .u64 x.f2).wf = true) ∧ ((Lit.int .i64 x.f3).wf = true) ∧ ((Lit.int .i64 x.f4).wf = true)) := by
  have h := RD.opens_struct (P := Try.prog) (t := 36) (d := (Kd.pair k34 (Kd.pair (Kd.int .u64) (Kd.pair (Kd.int .u64) (Kd.pair (Kd.int .i64) (Kd.int .i64)))))) (Q := fun x => (((Lit.int .u64 x.1.f0).wf = true) ∧ ((Lit.int .u64 x.1.f1).wf = true)) ∧ (((Lit.int .u64 x.2.1).wf = true) ∧ (((Lit.int .u64 x.2.2.1).wf = true) ∧ (((Lit.int .i64 x.2.2.2.1).wf = true) ∧ ((Lit.int .i64 x.2.2.2.2).wf = true))))) Try.underlying36 (by kernel_rfl) (RD.opensF_cons (d0 := k34) (d1 := (Kd.pair (Kd.int .u64) (Kd.pair (Kd.int .u64) (Kd.pair (Kd.int .i64) (Kd.int .i64))))) (Q0 := fun x => ((Lit.int .u64 x.f0).wf = true) ∧ ((Lit.int .u64 x.f1).wf = true)) (Q1 := fun x => ((Lit.int .u64 x.1).wf = true) ∧ (((Lit.int .u64 x.2.1).wf = true) ∧ (((Lit.int .i64 x.2.2.1).wf = true) ∧ ((Lit.int .i64 x.2.2.2).wf = true)))) (by rfl) (by kernel_rfl) opens_34 (RD.opensF_cons (d0 := (Kd.int .u64)) (d1 := (Kd.pair (Kd.int .u64) (Kd.pair (Kd.int .i64) (Kd.int .i64)))) (Q0 := fun x => (Lit.int .u64 x).wf = true) (Q1 := fun x => ((Lit.int .u64 x.1).wf = true) ∧ (((Lit.int .i64 x.2.1).wf = true) ∧ ((Lit.int .i64 x.2.2).wf = true))) (by rfl) (by kernel_rfl) opens_22 (RD.opensF_cons (d0 := (Kd.int .u64)) (d1 := (Kd.pair (Kd.int .i64) (Kd.int .i64))) (Q0 := fun x => (Lit.int .u64 x).wf = true) (Q1 := fun x => ((Lit.int .i64 x.1).wf = true) ∧ ((Lit.int .i64 x.2).wf = true)) (by rfl) (by kernel_rfl) opens_22 (RD.opensF_cons (d0 := (Kd.int .i64)) (d1 := (Kd.int .i64)) (Q0 := fun x => (Lit.int .i64 x).wf = true) (Q1 := fun x => (Lit.int .i64 x).wf = true) (by rfl) (by kernel_rfl) opens_2 (RD.opensF_one (by rfl) (by kernel_rfl) opens_2)))))
  exact RD.opens_iso (fun x : S36 => (x.f0, x.f1, x.f2, x.f3, x.f4)) (fun a => ⟨a.1, a.2.1, a.2.2.1, a.2.2.2.1, a.2.2.2.2⟩) (fun _ => rfl) h
set_option maxRecDepth 100000 in
theorem lifted (os : Os) (started : os.Started) (H : Type) (enc : TypeId × Value → H) :
    ReturnsInHanded {} Try.checked os 7 .any (Rows.numRefinesSpec.pre6 enc Try.prog Try.f7 Rows.numRefinesRow.domain false) (Rows.numRefinesSpec.post enc Try.prog Try.f7 false true false false) := by
  refine returnsInHanded_of_change_sized (C := Try.checked) own started (by kernel_rfl) Try.func7
    (ChangeSpec.witness6 (enc := enc) (C := Try.checked) false ⟨#[], #[.agg #[.int .u64 0, .int .u64 0, .int .u64 0, .int .u64 0, .int .i64 0, .int .i64 0]], []⟩ 16 (by kernel_rfl) (by kernel_rfl) (by kernel_rfl) (by kernel_rfl)) ?_
  intro W base args ds gs before hval0 hW hcnd hsz0 _
  have hsz : (DataW.weightsEach Try.prog (Try.f7.params.toList ++ Rows.numRefinesSpec.plain.varTypes Try.prog) (ds ++ gs)).all (· ≤ reachBytes) = true := hsz0
  have hval : ∀ (j : Nat) t v, Try.f7.params[j]? = some t → args[j]? = some v → Value.okWide Try.prog W .any base t v := hval0
  have hW' := hW
  obtain ⟨p, q, hA0, hV, rfl, hfz, hnd⟩ := hW
  have hA : DataW.TrodAll enc Try.prog W 0 (fun _ => true) true Try.f7.params.toList args.toList ds p := hA0
  rw [Try.params7] at hA hval hsz
  obtain ⟨v0, vs0, d0, ds0, p0, q0, hargs, rfl, rfl, h0, r0⟩ := trodAll_cons hA
  obtain ⟨rfl, rfl, rfl⟩ := trodAll_nil r0
  obtain rfl : args = #[v0] := by cases args; simp_all
  obtain ⟨rfl, rfl⟩ := trodVars_none hV
  have k0 := h0
  have lt0 : ∀ x ∈ p0, x.block < W.heap.size := by obtain ⟨m, hm⟩ := k0; exact DataW.trod_lt m _ _ _ hm
  obtain ⟨x0, K0, w0⟩ := opens_36.arg hsz (j := 0) rfl rfl h0
  obtain ⟨cs0, rfl, _⟩ := okWide_struct Try.underlying36 (hval 0 36 v0 rfl rfl)
  obtain e0 := k36_open K0
  obtain rfl : cs0 = #[.int .u64 x0.f0.f0, .int .u64 x0.f0.f1, .int .u64 x0.f1, .int .u64 x0.f2, .int .i64 x0.f3, .int .i64 x0.f4] := Array.toList_inj.1 e0
  clear hA0 hval0 hsz0 hsz
  obtain ⟨k, h⟩ := Pure.NumRefines x0.f0.f0 x0.f0.f1 x0.f1 x0.f2 x0.f3 x0.f4 w0
  refine (halberdlaw07_NumRefines.calls (r := true) (w := W) (hr_ := ⟨rfl⟩)  (h := h)).mono fun e W' hh => ?_
  obtain ⟨he, bel0⟩ := hh
  have bel : Below W.heap.size W W' := bel0
  subst he
  exact ⟨_, rfl, _, _, _, [], _, [], hW', trodAll_mk1 (shut_bool Try.underlying4 _), (trodAll_cons_mk (Below.trod laidOut (by kernel_rfl) (of_decide_eq_true (by kernel_rfl)) k0 bel lt0) trodAll_mk0), rfl, bel.frame _, fun h => by cases h⟩
theorem over : Rows.numRefinesRow.holds Try.pinned (OpenSpec.ofChange Rows.numRefinesSpec) :=
  OpenClaim.holds_of_wide 7 Try.f7 rfl rfl rfl rfl rfl rfl rfl ⟨rfl, rfl, rfl, rfl, rfl⟩ rfl rfl rfl rfl rfl (by kernel_rfl) Try.func7 (by kernel_rfl)
    (of_decide_eq_true (by kernel_rfl)) (by unfold Func.isWrapper; first | (rw [if_pos (by decide +kernel)]; kernel_rfl) | (rw [if_neg (by decide +kernel)]; exact ⟨rfl, rfl⟩))
    (fun os started H enc _ => lifted os started H enc)
theorem proved : Rows.NumRefinesSaid := over
#print axioms proved
end Go.Proofs.Ytdojdjafleaedaa.numRefines
namespace Go.Proofs.Ytdojdjafleaedaa
/-- The row, under a short name, for the claim. -/
theorem numRefines_holds : Rows.NumRefinesSaid := numRefines.proved
end Go.Proofs.Ytdojdjafleaedaa
