/- The law InstBack holds for all its arguments: the given statement, out of the plain law and the walks of the functions; no conditions. -/
import Derived.Test.YtjcmkognkbpfcaaRows
import Derived.Test.YtjcmkognkbpfcaaPInstBackx3
import Derived.Test.YtjcmkognkbpfcaaPureInstBack
import Derived.Test.YtjcmkognkbpfcaaRD
import Derived.Test.YtjcmkognkbpfcaaWSized
import Derived.WalkKit
import Derived.ProofKit
import Derived.OpenShut
import Derived.ShutString
import Derived.ChangeOld
import Derived.Below
import Derived.SizedLaws
namespace Go.Proofs.Ytjcmkognkbpfcaa.instBack
open Go.ChangeShapes Go.WideShapes Go.ChangeAt Go.RowKit Go.Proofs.Ytjcmkognkbpfcaa.PInstBack Go.Proofs.YtjcmkognkbpfcaaW.PrintWords Go.Proofs.YtjcmkognkbpfcaaW.PrintLast Go.Proofs.YtjcmkognkbpfcaaW.PrintMore
open Go.ChangeMaps (open_string shut_string)
set_option linter.unusedVariables false
theorem own : ownKnob Try.prog.godebug = none := by kernel_rfl
theorem laidOut : laidOutB Try.prog = true := by kernel_rfl
theorem opens_5 : RD.Opens Try.prog 5 (Kd.int .u8) (fun x => (Lit.int .u8 x).wf = true) := RD.opens_int Try.underlying5 (by kernel_rfl)
theorem opens_33 : RD.Opens Try.prog 33 (Kd.int .i16) (fun x => (Lit.int .i16 x).wf = true) := RD.opens_int Try.underlying33 (by kernel_rfl)
theorem opens_21 : RD.Opens Try.prog 21 (Kd.int .i32) (fun x => (Lit.int .i32 x).wf = true) := RD.opens_int Try.underlying21 (by kernel_rfl)
theorem opens_35 : RD.Opens Try.prog 35 k35 (fun x => ((Lit.int .u8 x.f0).wf = true) ∧ ((Lit.int .u8 x.f1).wf = true) ∧ ((Lit.int .u8 x.f2).wf = true) ∧ ((Lit.int .i16 x.f3).wf = true) ∧ ((Lit.int .i32 x.f4).wf = true)) := by
  have h := RD.opens_struct (P := Try.prog) (t := 35) (d := (Kd.pair (Kd.int .u8) (Kd.pair (Kd.int .u8) (Kd.pair (Kd.int .u8) (Kd.pair (Kd.int .i16) (Kd.int .i32)))))) (Q := fun x => ((Lit.int .u8 x.1).wf = true) ∧ (((Lit.int .u8 x.2.1).wf = true) ∧ (((Lit.int .u8 x.2.2.1).wf = true) ∧ (((Lit.int .i16 x.2.2.2.1).wf = true) ∧ ((Lit.int .i32 x.2.2.2.2).wf = true))))) Try.underlying35 (by kernel_rfl) (RD.opensF_cons (d0 := (Kd.int .u8)) (d1 := (Kd.pair (Kd.int .u8) (Kd.pair (Kd.int .u8) (Kd.pair (Kd.int .i16) (Kd.int .i32))))) (Q0 := fun x => (Lit.int .u8 x).wf = true) (Q1 := fun x => ((Lit.int .u8 x.1).wf = true) ∧ (((Lit.int .u8 x.2.1).wf = true) ∧ (((Lit.int .i16 x.2.2.1).wf = true) ∧ ((Lit.int .i32 x.2.2.2).wf = true)))) (by rfl) (by kernel_rfl) opens_5 (RD.opensF_cons (d0 := (Kd.int .u8)) (d1 := (Kd.pair (Kd.int .u8) (Kd.pair (Kd.int .i16) (Kd.int .i32)))) (Q0 := fun x => (Lit.int .u8 x).wf = true) (Q1 := fun x => ((Lit.int .u8 x.1).wf = true) ∧ (((Lit.int .i16 x.2.1).wf = true) ∧ ((Lit.int .i32 x.2.2).wf = true))) (by rfl) (by kernel_rfl) opens_5 (RD.opensF_cons (d0 := (Kd.int .u8)) (d1 := (Kd.pair (Kd.int .i16) (Kd.int .i32))) (Q0 := fun x => (Lit.int .u8 x).wf = true) (Q1 := fun x => ((Lit.int .i16 x.1).wf = true) ∧ ((Lit.int .i32 x.2).wf = true)) (by rfl) (by kernel_rfl) opens_5 (RD.opensF_cons (d0 := (Kd.int .i16)) (d1 := (Kd.int .i32)) (Q0 := fun x => (Lit.int .i16 x).wf = true) (Q1 := fun x => (Lit.int .i32 x).wf = true) (by rfl) (by kernel_rfl) opens_33 (RD.opensF_one (by rfl) (by kernel_rfl) opens_21)))))
  exact RD.opens_iso (fun x : S35 => (x.f0, x.f1, x.f2, x.f3, x.f4)) (fun a => ⟨a.1, a.2.1, a.2.2.1, a.2.2.2.1, a.2.2.2.2⟩) (fun _ => rfl) h
theorem opens_24 : RD.Opens Try.prog 24 (Kd.slice 35 k35) (fun x => x.length ≤ maxLen ∧ x.length * 12 ≤ 140737488351232 ∧ ∀ y_ ∈ x, ((Lit.int .u8 y_.f0).wf = true) ∧ ((Lit.int .u8 y_.f1).wf = true) ∧ ((Lit.int .u8 y_.f2).wf = true) ∧ ((Lit.int .i16 y_.f3).wf = true) ∧ ((Lit.int .i32 y_.f4).wf = true)) := RD.opens_slice Try.underlying24 (by kernel_rfl) (by kernel_rfl) opens_35
set_option maxRecDepth 100000 in
theorem lifted (os : Os) (started : os.Started) (H : Type) (enc : TypeId × Value → H) :
    ReturnsInHanded {} Try.checked os 4 .any (Rows.instBackSpec.pre6 enc Try.prog Try.f4 Rows.instBackRow.domain false) (Rows.instBackSpec.post enc Try.prog Try.f4 false true false false) := by
  refine returnsInHanded_of_change_sized (C := Try.checked) own started (by kernel_rfl) Try.func4
    (ChangeSpec.witness6 (enc := enc) (C := Try.checked) false ⟨#[], #[.slice none 0 0], []⟩ 16 (by kernel_rfl) (by kernel_rfl) (by kernel_rfl) (by kernel_rfl)) ?_
  intro W base args ds gs before hval0 hW hcnd hsz0 _
  have hsz : (DataW.weightsEach Try.prog (Try.f4.params.toList ++ Rows.instBackSpec.plain.varTypes Try.prog) (ds ++ gs)).all (· ≤ reachBytes) = true := hsz0
  have hval : ∀ (j : Nat) t v, Try.f4.params[j]? = some t → args[j]? = some v → Value.okWide Try.prog W .any base t v := hval0
  have hW' := hW
  obtain ⟨p, q, hA0, hV, rfl, hfz, hnd⟩ := hW
  have hA : DataW.TrodAll enc Try.prog W 0 (fun _ => true) true Try.f4.params.toList args.toList ds p := hA0
  rw [Try.params4] at hA hval hsz
  obtain ⟨v0, vs0, d0, ds0, p0, q0, hargs, rfl, rfl, h0, r0⟩ := trodAll_cons hA
  obtain ⟨rfl, rfl, rfl⟩ := trodAll_nil r0
  obtain rfl : args = #[v0] := by cases args; simp_all
  obtain ⟨rfl, rfl⟩ := trodVars_none hV
  have k0 := h0
  have lt0 : ∀ x ∈ p0, x.block < W.heap.size := by obtain ⟨m, hm⟩ := k0; exact DataW.trod_lt m _ _ _ hm
  obtain ⟨x0, K0, w0⟩ := opens_24.arg hsz (j := 0) rfl rfl h0
  obtain ⟨a0, len0, cap0, rfl⟩ := okWide_slice Try.underlying24 (hval 0 24 v0 rfl rfl)
  obtain ⟨A0, c0, e0, hc0, hr0⟩ := K0
  obtain ⟨rfl, rfl, rfl⟩ : a0 = A0 ∧ len0 = x0.length ∧ cap0 = c0 := by simpa [Value.cells] using e0
  clear hA0 hval0 hsz0 hsz
  obtain ⟨k, h⟩ := Pure.InstBack x0 w0
  refine (halberdlaw02_InstBack.calls (r := true) (w := W) (hr_ := ⟨rfl⟩) (hr0 := hr0) (hc0 := hc0) (h := h)).mono fun e W' hh => ?_
  obtain ⟨he, bel0⟩ := hh
  have bel : Below W.heap.size W W' := bel0
  subst he
  exact ⟨_, rfl, _, _, _, [], _, [], hW', trodAll_mk1 (shut_bool Try.underlying4 _), (trodAll_cons_mk (Below.trod laidOut (by kernel_rfl) (of_decide_eq_true (by kernel_rfl)) k0 bel lt0) trodAll_mk0), rfl, bel.frame _, fun h => by cases h⟩
theorem over : Rows.instBackRow.holds Try.pinned (OpenSpec.ofChange Rows.instBackSpec) :=
  OpenClaim.holds_of_wide 4 Try.f4 rfl rfl rfl rfl rfl rfl rfl ⟨rfl, rfl, rfl, rfl, rfl⟩ rfl rfl rfl rfl rfl (by kernel_rfl) Try.func4 (by kernel_rfl)
    (of_decide_eq_true (by kernel_rfl)) (by unfold Func.isWrapper; first | (rw [if_pos (by decide +kernel)]; kernel_rfl) | (rw [if_neg (by decide +kernel)]; exact ⟨rfl, rfl⟩))
    (fun os started H enc _ => lifted os started H enc)
theorem proved : Rows.InstBackSaid := over
#print axioms proved
end Go.Proofs.Ytjcmkognkbpfcaa.instBack
namespace Go.Proofs.Ytjcmkognkbpfcaa
/-- The row, under a short name, for the claim. -/
theorem instBack_holds : Rows.InstBackSaid := instBack.proved
end Go.Proofs.Ytjcmkognkbpfcaa
