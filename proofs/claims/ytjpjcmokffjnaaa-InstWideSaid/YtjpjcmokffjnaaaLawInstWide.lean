/- The law InstWide holds for all its arguments: the given statement, out of the plain law and the walks of the functions; no conditions. -/
import Derived.Test.YtjpjcmokffjnaaaRows
import Derived.Test.YtjpjcmokffjnaaaPInstWidex2
import Derived.Test.YtjpjcmokffjnaaaPureInstWide
import Derived.Test.YtjpjcmokffjnaaaRD
import Derived.Test.YtjpjcmokffjnaaaWSized
import Derived.WalkKit
import Derived.ProofKit
import Derived.OpenShut
import Derived.ShutString
import Derived.ChangeOld
import Derived.Below
import Derived.SizedLaws
namespace Go.Proofs.Ytjpjcmokffjnaaa.instWide
open Go.ChangeShapes Go.WideShapes Go.ChangeAt Go.RowKit Go.Proofs.Ytjpjcmokffjnaaa.PInstWide Go.Proofs.YtjpjcmokffjnaaaW.PrintWords Go.Proofs.YtjpjcmokffjnaaaW.PrintLast Go.Proofs.YtjpjcmokffjnaaaW.PrintMore
open Go.ChangeMaps (open_string shut_string)
set_option linter.unusedVariables false
theorem own : ownKnob Try.prog.godebug = none := by kernel_rfl
theorem laidOut : laidOutB Try.prog = true := by kernel_rfl
theorem opens_5 : RD.Opens Try.prog 5 (Kd.int .u8) (fun x => (Lit.int .u8 x).wf = true) := RD.opens_int Try.underlying5 (by kernel_rfl)
theorem opens_27 : RD.Opens Try.prog 27 (Kd.int .i16) (fun x => (Lit.int .i16 x).wf = true) := RD.opens_int Try.underlying27 (by kernel_rfl)
theorem opens_21 : RD.Opens Try.prog 21 (Kd.int .i32) (fun x => (Lit.int .i32 x).wf = true) := RD.opens_int Try.underlying21 (by kernel_rfl)
theorem opens_29 : RD.Opens Try.prog 29 k29 (fun x => ((Lit.int .u8 x.f0).wf = true) ∧ ((Lit.int .u8 x.f1).wf = true) ∧ ((Lit.int .u8 x.f2).wf = true) ∧ ((Lit.int .i16 x.f3).wf = true) ∧ ((Lit.int .i32 x.f4).wf = true)) := by
  have h := RD.opens_struct (P := Try.prog) (t := 29) (d := (Kd.pair (Kd.int .u8) (Kd.pair (Kd.int .u8) (Kd.pair (Kd.int .u8) (Kd.pair (Kd.int .i16) (Kd.int .i32)))))) (Q := fun x => ((Lit.int .u8 x.1).wf = true) ∧ (((Lit.int .u8 x.2.1).wf = true) ∧ (((Lit.int .u8 x.2.2.1).wf = true) ∧ (((Lit.int .i16 x.2.2.2.1).wf = true) ∧ ((Lit.int .i32 x.2.2.2.2).wf = true))))) Try.underlying29 (by kernel_rfl) (RD.opensF_cons (d0 := (Kd.int .u8)) (d1 := (Kd.pair (Kd.int .u8) (Kd.pair (Kd.int .u8) (Kd.pair (Kd.int .i16) (Kd.int .i32))))) (Q0 := fun x => (Lit.int .u8 x).wf = true) (Q1 := fun x => ((Lit.int .u8 x.1).wf = true) ∧ (((Lit.int .u8 x.2.1).wf = true) ∧ (((Lit.int .i16 x.2.2.1).wf = true) ∧ ((Lit.int .i32 x.2.2.2).wf = true)))) (by rfl) (by kernel_rfl) opens_5 (RD.opensF_cons (d0 := (Kd.int .u8)) (d1 := (Kd.pair (Kd.int .u8) (Kd.pair (Kd.int .i16) (Kd.int .i32)))) (Q0 := fun x => (Lit.int .u8 x).wf = true) (Q1 := fun x => ((Lit.int .u8 x.1).wf = true) ∧ (((Lit.int .i16 x.2.1).wf = true) ∧ ((Lit.int .i32 x.2.2).wf = true))) (by rfl) (by kernel_rfl) opens_5 (RD.opensF_cons (d0 := (Kd.int .u8)) (d1 := (Kd.pair (Kd.int .i16) (Kd.int .i32))) (Q0 := fun x => (Lit.int .u8 x).wf = true) (Q1 := fun x => ((Lit.int .i16 x.1).wf = true) ∧ ((Lit.int .i32 x.2).wf = true)) (by rfl) (by kernel_rfl) opens_5 (RD.opensF_cons (d0 := (Kd.int .i16)) (d1 := (Kd.int .i32)) (Q0 := fun x => (Lit.int .i16 x).wf = true) (Q1 := fun x => (Lit.int .i32 x).wf = true) (by rfl) (by kernel_rfl) opens_27 (RD.opensF_one (by rfl) (by kernel_rfl) opens_21)))))
  exact RD.opens_iso (fun x : S29 => (x.f0, x.f1, x.f2, x.f3, x.f4)) (fun a => ⟨a.1, a.2.1, a.2.2.1, a.2.2.2.1, a.2.2.2.2⟩) (fun _ => rfl) h
set_option maxRecDepth 100000 in
theorem lifted (os : Os) (started : os.Started) (H : Type) (enc : TypeId × Value → H) :
    ReturnsInHanded {} Try.checked os 4 .any (Rows.instWideSpec.pre6 enc Try.prog Try.f4 Rows.instWideRow.domain false) (Rows.instWideSpec.post enc Try.prog Try.f4 false true false false) := by
  refine returnsInHanded_of_change_sized (C := Try.checked) own started (by kernel_rfl) Try.func4
    (ChangeSpec.witness6 (enc := enc) (C := Try.checked) false ⟨#[], #[.agg #[.int .u8 0, .int .u8 0, .int .u8 0, .int .i16 0, .int .i32 0], .agg #[.int .u8 0, .int .u8 0, .int .u8 0, .int .i16 0, .int .i32 0], .int .u64 0, .int .u8 0, .int .u8 0, .int .u8 0], []⟩ 16 (by kernel_rfl) (by kernel_rfl) (by kernel_rfl) (by kernel_rfl)) ?_
  intro W base args ds gs before hval0 hW hcnd hsz0 _
  have hsz : (DataW.weightsEach Try.prog (Try.f4.params.toList ++ Rows.instWideSpec.plain.varTypes Try.prog) (ds ++ gs)).all (· ≤ reachBytes) = true := hsz0
  have hval : ∀ (j : Nat) t v, Try.f4.params[j]? = some t → args[j]? = some v → Value.okWide Try.prog W .any base t v := hval0
  have hW' := hW
  obtain ⟨p, q, hA0, hV, rfl, hfz, hnd⟩ := hW
  have hA : DataW.TrodAll enc Try.prog W 0 (fun _ => true) true Try.f4.params.toList args.toList ds p := hA0
  rw [Try.params4] at hA hval hsz
  obtain ⟨v0, vs0, d0, ds0, p0, q0, hargs, rfl, rfl, h0, r0⟩ := trodAll_cons hA
  obtain ⟨v1, vs1, d1, ds1, p1, q1, rfl, rfl, rfl, h1, r1⟩ := trodAll_cons r0
  obtain ⟨v2, vs2, d2, ds2, p2, q2, rfl, rfl, rfl, h2, r2⟩ := trodAll_cons r1
  obtain ⟨v3, vs3, d3, ds3, p3, q3, rfl, rfl, rfl, h3, r3⟩ := trodAll_cons r2
  obtain ⟨v4, vs4, d4, ds4, p4, q4, rfl, rfl, rfl, h4, r4⟩ := trodAll_cons r3
  obtain ⟨v5, vs5, d5, ds5, p5, q5, rfl, rfl, rfl, h5, r5⟩ := trodAll_cons r4
  obtain ⟨rfl, rfl, rfl⟩ := trodAll_nil r5
  obtain rfl : args = #[v0, v1, v2, v3, v4, v5] := by cases args; simp_all
  obtain ⟨rfl, rfl⟩ := trodVars_none hV
  have k0 := h0
  have lt0 : ∀ x ∈ p0, x.block < W.heap.size := by obtain ⟨m, hm⟩ := k0; exact DataW.trod_lt m _ _ _ hm
  obtain ⟨x0, K0, w0⟩ := opens_29.arg hsz (j := 0) rfl rfl h0
  obtain ⟨cs0, rfl, _⟩ := okWide_struct Try.underlying29 (hval 0 29 v0 rfl rfl)
  obtain e0 := k29_open K0
  obtain rfl : cs0 = #[.int .u8 x0.f0, .int .u8 x0.f1, .int .u8 x0.f2, .int .i16 x0.f3, .int .i32 x0.f4] := Array.toList_inj.1 e0
  have k1 := h1
  have lt1 : ∀ x ∈ p1, x.block < W.heap.size := by obtain ⟨m, hm⟩ := k1; exact DataW.trod_lt m _ _ _ hm
  obtain ⟨x1, K1, w1⟩ := opens_29.arg hsz (j := 1) rfl rfl h1
  obtain ⟨cs1, rfl, _⟩ := okWide_struct Try.underlying29 (hval 1 29 v1 rfl rfl)
  obtain e1 := k29_open K1
  obtain rfl : cs1 = #[.int .u8 x1.f0, .int .u8 x1.f1, .int .u8 x1.f2, .int .i16 x1.f3, .int .i32 x1.f4] := Array.toList_inj.1 e1
  obtain ⟨a2, rfl, rfl, rfl, w2⟩ := open_int Try.underlying30 (hval 2 30 v2 rfl rfl) h2
  obtain ⟨a3, rfl, rfl, rfl, w3⟩ := open_int Try.underlying5 (hval 3 5 v3 rfl rfl) h3
  obtain ⟨a4, rfl, rfl, rfl, w4⟩ := open_int Try.underlying5 (hval 4 5 v4 rfl rfl) h4
  obtain ⟨a5, rfl, rfl, rfl, w5⟩ := open_int Try.underlying5 (hval 5 5 v5 rfl rfl) h5
  clear hA0 hval0 hsz0 hsz
  obtain ⟨k, h⟩ := Pure.InstWide x0.f0 x0.f1 x0.f2 x0.f3 x0.f4 x1.f0 x1.f1 x1.f2 x1.f3 x1.f4 a2 a3 a4 a5 w0 w1 w2 w3 w4 w5
  refine (halberdlaw02_InstWide.calls (r := true) (w := W) (hr_ := ⟨rfl⟩)  (h := h)).mono fun e W' hh => ?_
  obtain ⟨he, bel0⟩ := hh
  have bel : Below W.heap.size W W' := bel0
  subst he
  exact ⟨_, rfl, _, _, _, [], _, [], hW', trodAll_mk1 (shut_bool Try.underlying4 _), (trodAll_cons_mk (Below.trod laidOut (by kernel_rfl) (of_decide_eq_true (by kernel_rfl)) k0 bel lt0) (trodAll_cons_mk (Below.trod laidOut (by kernel_rfl) (of_decide_eq_true (by kernel_rfl)) k1 bel lt1) (trodAll_cons_mk (shut_int Try.underlying30 w2) (trodAll_cons_mk (shut_int Try.underlying5 w3) (trodAll_cons_mk (shut_int Try.underlying5 w4) (trodAll_cons_mk (shut_int Try.underlying5 w5) trodAll_mk0)))))), rfl, bel.frame _, fun h => by cases h⟩
theorem over : Rows.instWideRow.holds Try.pinned (OpenSpec.ofChange Rows.instWideSpec) :=
  OpenClaim.holds_of_wide 4 Try.f4 rfl rfl rfl rfl rfl rfl rfl ⟨rfl, rfl, rfl, rfl, rfl⟩ rfl rfl rfl rfl rfl (by kernel_rfl) Try.func4 (by kernel_rfl)
    (of_decide_eq_true (by kernel_rfl)) (by unfold Func.isWrapper; first | (rw [if_pos (by decide +kernel)]; kernel_rfl) | (rw [if_neg (by decide +kernel)]; exact ⟨rfl, rfl⟩))
    (fun os started H enc _ => lifted os started H enc)
theorem proved : Rows.InstWideSaid := over
#print axioms proved
end Go.Proofs.Ytjpjcmokffjnaaa.instWide
namespace Go.Proofs.Ytjpjcmokffjnaaa
/-- The row, under a short name, for the claim. -/
theorem instWide_holds : Rows.InstWideSaid := instWide.proved
end Go.Proofs.Ytjpjcmokffjnaaa
