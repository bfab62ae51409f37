/- The law TnumTwo holds for all its arguments: the given statement, out of the plain law and the walks of the functions; no conditions. -/
import Derived.Test.YteckjmejngieeaaRows
import Derived.Test.YteckjmejngieeaaPTnumTwox6
import Derived.Test.YteckjmejngieeaaPureTnumTwo
import Derived.Test.YteckjmejngieeaaRD
import Derived.Test.YteckjmejngieeaaWSized
import Derived.WalkKit
import Derived.ProofKit
import Derived.OpenShut
import Derived.ShutString
import Derived.ChangeOld
import Derived.Below
import Derived.SizedLaws
namespace Go.Proofs.Yteckjmejngieeaa.tnumTwo
open Go.ChangeShapes Go.WideShapes Go.ChangeAt Go.RowKit Go.Proofs.Yteckjmejngieeaa.PTnumTwo Go.Proofs.YteckjmejngieeaaW.PrintWords Go.Proofs.YteckjmejngieeaaW.PrintLast Go.Proofs.YteckjmejngieeaaW.PrintMore
open Go.ChangeMaps (open_string shut_string)
set_option linter.unusedVariables false
theorem own : ownKnob Try.prog.godebug = none := by kernel_rfl
theorem laidOut : laidOutB Try.prog = true := by kernel_rfl
theorem opens_41 : RD.Opens Try.prog 41 (Kd.int .u64) (fun x => (Lit.int .u64 x).wf = true) := RD.opens_int Try.underlying41 (by kernel_rfl)
theorem opens_43 : RD.Opens Try.prog 43 k43 (fun x => ((Lit.int .u64 x.f0).wf = true) ∧ ((Lit.int .u64 x.f1).wf = true)) := by
  have h := RD.opens_struct (P := Try.prog) (t := 43) (d := (Kd.pair (Kd.int .u64) (Kd.int .u64))) (Q := fun x => ((Lit.int .u64 x.1).wf = true) ∧ ((Lit.int .u64 x.2).wf = true)) Try.underlying43 (by kernel_rfl) (RD.opensF_cons (d0 := (Kd.int .u64)) (d1 := (Kd.int .u64)) (Q0 := fun x => (Lit.int .u64 x).wf = true) (Q1 := fun x => (Lit.int .u64 x).wf = true) (by rfl) (by kernel_rfl) opens_41 (RD.opensF_one (by rfl) (by kernel_rfl) opens_41))
  exact RD.opens_iso (fun x : S43 => (x.f0, x.f1)) (fun a => ⟨a.1, a.2⟩) (fun _ => rfl) h
set_option maxRecDepth 100000 in
theorem lifted (os : Os) (started : os.Started) (H : Type) (enc : TypeId × Value → H) :
    ReturnsInHanded {} Try.checked os 8 .any (Rows.tnumTwoSpec.pre6 enc Try.prog Try.f8 Rows.tnumTwoRow.domain false) (Rows.tnumTwoSpec.post enc Try.prog Try.f8 false true false false) := by
  refine returnsInHanded_of_change_sized (C := Try.checked) own started (by kernel_rfl) Try.func8
    (ChangeSpec.witness6 (enc := enc) (C := Try.checked) false ⟨#[], #[.agg #[.int .u64 0, .int .u64 0], .agg #[.int .u64 0, .int .u64 0]], []⟩ 16 (by kernel_rfl) (by kernel_rfl) (by kernel_rfl) (by kernel_rfl)) ?_
  intro W base args ds gs before hval0 hW hcnd hsz0 _
  have hsz : (DataW.weightsEach Try.prog (Try.f8.params.toList ++ Rows.tnumTwoSpec.plain.varTypes Try.prog) (ds ++ gs)).all (· ≤ reachBytes) = true := hsz0
  have hval : ∀ (j : Nat) t v, Try.f8.params[j]? = some t → args[j]? = some v → Value.okWide Try.prog W .any base t v := hval0
  have hW' := hW
  obtain ⟨p, q, hA0, hV, rfl, hfz, hnd⟩ := hW
  have hA : DataW.TrodAll enc Try.prog W 0 (fun _ => true) true Try.f8.params.toList args.toList ds p := hA0
  rw [Try.params8] at hA hval hsz
  obtain ⟨v0, vs0, d0, ds0, p0, q0, hargs, rfl, rfl, h0, r0⟩ := trodAll_cons hA
  obtain ⟨v1, vs1, d1, ds1, p1, q1, rfl, rfl, rfl, h1, r1⟩ := trodAll_cons r0
  obtain ⟨rfl, rfl, rfl⟩ := trodAll_nil r1
  obtain rfl : args = #[v0, v1] := by cases args; simp_all
  obtain ⟨rfl, rfl⟩ := trodVars_none hV
  have k0 := h0
  have lt0 : ∀ x ∈ p0, x.block < W.heap.size := by obtain ⟨m, hm⟩ := k0; exact DataW.trod_lt m _ _ _ hm
  obtain ⟨x0, K0, w0⟩ := opens_43.arg hsz (j := 0) rfl rfl h0
  obtain ⟨cs0, rfl, _⟩ := okWide_struct Try.underlying43 (hval 0 43 v0 rfl rfl)
  obtain e0 := k43_open K0
  obtain rfl : cs0 = #[.int .u64 x0.f0, .int .u64 x0.f1] := Array.toList_inj.1 e0
  have k1 := h1
  have lt1 : ∀ x ∈ p1, x.block < W.heap.size := by obtain ⟨m, hm⟩ := k1; exact DataW.trod_lt m _ _ _ hm
  obtain ⟨x1, K1, w1⟩ := opens_43.arg hsz (j := 1) rfl rfl h1
  obtain ⟨cs1, rfl, _⟩ := okWide_struct Try.underlying43 (hval 1 43 v1 rfl rfl)
  obtain e1 := k43_open K1
  obtain rfl : cs1 = #[.int .u64 x1.f0, .int .u64 x1.f1] := Array.toList_inj.1 e1
  clear hA0 hval0 hsz0 hsz
  obtain ⟨k, h⟩ := Pure.TnumTwo x0.f0 x0.f1 x1.f0 x1.f1 w0 w1
  refine (halberdlaw06_TnumTwo.calls (r := true) (w := W) (hr_ := ⟨rfl⟩)  (h := h)).mono fun e W' hh => ?_
  obtain ⟨he, bel0⟩ := hh
  have bel : Below W.heap.size W W' := bel0
  subst he
  exact ⟨_, rfl, _, _, _, [], _, [], hW', trodAll_mk1 (shut_bool Try.underlying4 _), (trodAll_cons_mk (Below.trod laidOut (by kernel_rfl) (of_decide_eq_true (by kernel_rfl)) k0 bel lt0) (trodAll_cons_mk (Below.trod laidOut (by kernel_rfl) (of_decide_eq_true (by kernel_rfl)) k1 bel lt1) trodAll_mk0)), rfl, bel.frame _, fun h => by cases h⟩
theorem over : Rows.tnumTwoRow.holds Try.pinned (OpenSpec.ofChange Rows.tnumTwoSpec) :=
  OpenClaim.holds_of_wide 8 Try.f8 rfl rfl rfl rfl rfl rfl rfl ⟨rfl, rfl, rfl, rfl, rfl⟩ rfl rfl rfl rfl rfl (by kernel_rfl) Try.func8 (by kernel_rfl)
    (of_decide_eq_true (by kernel_rfl)) (by unfold Func.isWrapper; first | (rw [if_pos (by decide +kernel)]; kernel_rfl) | (rw [if_neg (by decide +kernel)]; exact ⟨rfl, rfl⟩))
    (fun os started H enc _ => lifted os started H enc)
theorem proved : Rows.TnumTwoSaid := over
#print axioms proved
end Go.Proofs.Yteckjmejngieeaa.tnumTwo
namespace Go.Proofs.Yteckjmejngieeaa
/-- The row, under a short name, for the claim. -/
theorem tnumTwo_holds : Rows.TnumTwoSaid := tnumTwo.proved
end Go.Proofs.Yteckjmejngieeaa
