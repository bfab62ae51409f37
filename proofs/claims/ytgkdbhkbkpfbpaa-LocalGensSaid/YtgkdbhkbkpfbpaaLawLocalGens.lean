/- The law LocalGens holds for all its arguments: the given statement, out of the plain law and the walks of the functions; no conditions. -/
import Derived.Test.YtgkdbhkbkpfbpaaRows
import Derived.Test.YtgkdbhkbkpfbpaaPLocalGensx1
import Derived.Test.YtgkdbhkbkpfbpaaPureLocalGens
import Derived.Test.YtgkdbhkbkpfbpaaRD
import Derived.Test.YtgkdbhkbkpfbpaaWSized
import Derived.WalkKit
import Derived.ProofKit
import Derived.OpenShut
import Derived.ShutString
import Derived.ChangeOld
import Derived.Below
import Derived.SizedLaws
namespace Go.Proofs.Ytgkdbhkbkpfbpaa.localGens
open Go.ChangeShapes Go.WideShapes Go.ChangeAt Go.RowKit Go.Proofs.Ytgkdbhkbkpfbpaa.PLocalGens Go.Proofs.YtgkdbhkbkpfbpaaW.PrintWords Go.Proofs.YtgkdbhkbkpfbpaaW.PrintLast Go.Proofs.YtgkdbhkbkpfbpaaW.PrintMore
open Go.ChangeMaps (open_string shut_string)
set_option linter.unusedVariables false
theorem own : ownKnob Try.prog.godebug = none := by kernel_rfl
theorem laidOut : laidOutB Try.prog = true := by kernel_rfl
theorem opens_3 : RD.Opens Try.prog 3 (Kd.int .i64) (fun x => (Lit.int .i64 x).wf = true) := RD.opens_int Try.underlying3 (by kernel_rfl)
theorem opens_54 : RD.Opens Try.prog 54 k54 (fun x => ((Lit.int .i64 x.f0).wf = true) ∧ ((Lit.int .i64 x.f1).wf = true)) := by
  have h := RD.opens_struct (P := Try.prog) (t := 54) (d := (Kd.pair (Kd.int .i64) (Kd.int .i64))) (Q := fun x => ((Lit.int .i64 x.1).wf = true) ∧ ((Lit.int .i64 x.2).wf = true)) Try.underlying54 (by kernel_rfl) (RD.opensF_cons (d0 := (Kd.int .i64)) (d1 := (Kd.int .i64)) (Q0 := fun x => (Lit.int .i64 x).wf = true) (Q1 := fun x => (Lit.int .i64 x).wf = true) (by rfl) (by kernel_rfl) opens_3 (RD.opensF_one (by rfl) (by kernel_rfl) opens_3))
  exact RD.opens_iso (fun x : S54 => (x.f0, x.f1)) (fun a => ⟨a.1, a.2⟩) (fun _ => rfl) h
set_option maxRecDepth 100000 in
theorem lifted (os : Os) (started : os.Started) (H : Type) (enc : TypeId × Value → H) :
    ReturnsInHanded {} Try.checked os 6 .any (Rows.localGensSpec.pre6 enc Try.prog Try.f6 Rows.localGensRow.domain false) (Rows.localGensSpec.post enc Try.prog Try.f6 false true false false) := by
  refine returnsInHanded_of_change_sized (C := Try.checked) own started (by kernel_rfl) Try.func6
    (ChangeSpec.witness6 (enc := enc) (C := Try.checked) false ⟨#[], #[.agg #[.int .i64 0, .int .i64 0], .agg #[.int .i64 0, .int .i64 0], .int .u8 0], []⟩ 16 (by kernel_rfl) (by kernel_rfl) (by kernel_rfl) (by kernel_rfl)) ?_
  intro W base args ds gs before hval0 hW hcnd hsz0 _
  have hsz : (DataW.weightsEach Try.prog (Try.f6.params.toList ++ Rows.localGensSpec.plain.varTypes Try.prog) (ds ++ gs)).all (· ≤ reachBytes) = true := hsz0
  have hval : ∀ (j : Nat) t v, Try.f6.params[j]? = some t → args[j]? = some v → Value.okWide Try.prog W .any base t v := hval0
  have hW' := hW
  obtain ⟨p, q, hA0, hV, rfl, hfz, hnd⟩ := hW
  have hA : DataW.TrodAll enc Try.prog W 0 (fun _ => true) true Try.f6.params.toList args.toList ds p := hA0
  rw [Try.params6] at hA hval hsz
  obtain ⟨v0, vs0, d0, ds0, p0, q0, hargs, rfl, rfl, h0, r0⟩ := trodAll_cons hA
  obtain ⟨v1, vs1, d1, ds1, p1, q1, rfl, rfl, rfl, h1, r1⟩ := trodAll_cons r0
  obtain ⟨v2, vs2, d2, ds2, p2, q2, rfl, rfl, rfl, h2, r2⟩ := trodAll_cons r1
  obtain ⟨rfl, rfl, rfl⟩ := trodAll_nil r2
  obtain rfl : args = #[v0, v1, v2] := by cases args; simp_all
  obtain ⟨rfl, rfl⟩ := trodVars_none hV
  have k0 := h0
  have lt0 : ∀ x ∈ p0, x.block < W.heap.size := by obtain ⟨m, hm⟩ := k0; exact DataW.trod_lt m _ _ _ hm
  obtain ⟨x0, K0, w0⟩ := opens_54.arg hsz (j := 0) rfl rfl h0
  obtain ⟨cs0, rfl, _⟩ := okWide_struct Try.underlying54 (hval 0 54 v0 rfl rfl)
  obtain e0 := k54_open K0
  obtain rfl : cs0 = #[.int .i64 x0.f0, .int .i64 x0.f1] := Array.toList_inj.1 e0
  have k1 := h1
  have lt1 : ∀ x ∈ p1, x.block < W.heap.size := by obtain ⟨m, hm⟩ := k1; exact DataW.trod_lt m _ _ _ hm
  obtain ⟨x1, K1, w1⟩ := opens_54.arg hsz (j := 1) rfl rfl h1
  obtain ⟨cs1, rfl, _⟩ := okWide_struct Try.underlying54 (hval 1 54 v1 rfl rfl)
  obtain e1 := k54_open K1
  obtain rfl : cs1 = #[.int .i64 x1.f0, .int .i64 x1.f1] := Array.toList_inj.1 e1
  obtain ⟨a2, rfl, rfl, rfl, w2⟩ := open_int Try.underlying5 (hval 2 5 v2 rfl rfl) h2
  clear hA0 hval0 hsz0 hsz
  have h := Pure.LocalGens x0.f0 x0.f1 x1.f0 x1.f1 a2 w0 w1 w2
  refine (halberdlaw12_LocalGens.calls (r := true) (w := W) (hr_ := ⟨rfl⟩)  (h := h)).mono fun e W' hh => ?_
  obtain ⟨he, bel0⟩ := hh
  have bel : Below W.heap.size W W' := bel0
  subst he
  exact ⟨_, rfl, _, _, _, [], _, [], hW', trodAll_mk1 (shut_bool Try.underlying4 _), (trodAll_cons_mk (Below.trod laidOut (by kernel_rfl) (of_decide_eq_true (by kernel_rfl)) k0 bel lt0) (trodAll_cons_mk (Below.trod laidOut (by kernel_rfl) (of_decide_eq_true (by kernel_rfl)) k1 bel lt1) (trodAll_cons_mk (shut_int Try.underlying5 w2) trodAll_mk0))), rfl, bel.frame _, fun h => by cases h⟩
theorem over : Rows.localGensRow.holds Try.pinned (OpenSpec.ofChange Rows.localGensSpec) :=
  OpenClaim.holds_of_wide 6 Try.f6 rfl rfl rfl rfl rfl rfl rfl ⟨rfl, rfl, rfl, rfl, rfl⟩ rfl rfl rfl rfl rfl (by kernel_rfl) Try.func6 (by kernel_rfl)
    (of_decide_eq_true (by kernel_rfl)) (by unfold Func.isWrapper; first | (rw [if_pos (by decide +kernel)]; kernel_rfl) | (rw [if_neg (by decide +kernel)]; exact ⟨rfl, rfl⟩))
    (fun os started H enc _ => lifted os started H enc)
theorem proved : Rows.LocalGensSaid := over
#print axioms proved
end Go.Proofs.Ytgkdbhkbkpfbpaa.localGens
namespace Go.Proofs.Ytgkdbhkbkpfbpaa
/-- The row, under a short name, for the claim. -/
theorem localGens_holds : Rows.LocalGensSaid := localGens.proved
end Go.Proofs.Ytgkdbhkbkpfbpaa
