/- The law RingPlays holds for all its arguments: the given statement, out of the plain law and the walks of the functions; no conditions. -/
import Derived.Test.YtgkdbhkbkpfbpaaRows
import Derived.Test.YtgkdbhkbkpfbpaaPRingPlaysx1
import Derived.Test.YtgkdbhkbkpfbpaaPureRingPlays
import Derived.Test.YtgkdbhkbkpfbpaaRD
import Derived.Test.YtgkdbhkbkpfbpaaWSized
import Derived.WalkKit
import Derived.ProofKit
import Derived.OpenShut
import Derived.ShutString
import Derived.ChangeOld
import Derived.Below
import Derived.SizedLaws
namespace Go.Proofs.Ytgkdbhkbkpfbpaa.ringPlays
open Go.ChangeShapes Go.WideShapes Go.ChangeAt Go.RowKit Go.Proofs.Ytgkdbhkbkpfbpaa.PRingPlays Go.Proofs.YtgkdbhkbkpfbpaaW.PrintWords Go.Proofs.YtgkdbhkbkpfbpaaW.PrintLast Go.Proofs.YtgkdbhkbkpfbpaaW.PrintMore
open Go.ChangeMaps (open_string shut_string)
set_option linter.unusedVariables false
theorem own : ownKnob Try.prog.godebug = none := by kernel_rfl
theorem laidOut : laidOutB Try.prog = true := by kernel_rfl
theorem opens_5 : RD.Opens Try.prog 5 (Kd.int .u8) (fun x => (Lit.int .u8 x).wf = true) := RD.opens_int Try.underlying5 (by kernel_rfl)
theorem opens_3 : RD.Opens Try.prog 3 (Kd.int .i64) (fun x => (Lit.int .i64 x).wf = true) := RD.opens_int Try.underlying3 (by kernel_rfl)
theorem opens_74 : RD.Opens Try.prog 74 k74 (fun x => ((Lit.int .u8 x.f0).wf = true) ∧ ((Lit.int .i64 x.f1).wf = true) ∧ ((Lit.int .i64 x.f2).wf = true) ∧ ((Lit.int .i64 x.f3).wf = true) ∧ ((Lit.int .u8 x.f4).wf = true)) := by
  have h := RD.opens_struct (P := Try.prog) (t := 74) (d := (Kd.pair (Kd.int .u8) (Kd.pair (Kd.int .i64) (Kd.pair (Kd.int .i64) (Kd.pair (Kd.int .i64) (Kd.int .u8)))))) (Q := fun x => ((Lit.int .u8 x.1).wf = true) ∧ (((Lit.int .i64 x.2.1).wf = true) ∧ (((Lit.int .i64 x.2.2.1).wf = true) ∧ (((Lit.int .i64 x.2.2.2.1).wf = true) ∧ ((Lit.int .u8 x.2.2.2.2).wf = true))))) Try.underlying74 (by kernel_rfl) (RD.opensF_cons (d0 := (Kd.int .u8)) (d1 := (Kd.pair (Kd.int .i64) (Kd.pair (Kd.int .i64) (Kd.pair (Kd.int .i64) (Kd.int .u8))))) (Q0 := fun x => (Lit.int .u8 x).wf = true) (Q1 := fun x => ((Lit.int .i64 x.1).wf = true) ∧ (((Lit.int .i64 x.2.1).wf = true) ∧ (((Lit.int .i64 x.2.2.1).wf = true) ∧ ((Lit.int .u8 x.2.2.2).wf = true)))) (by rfl) (by kernel_rfl) opens_5 (RD.opensF_cons (d0 := (Kd.int .i64)) (d1 := (Kd.pair (Kd.int .i64) (Kd.pair (Kd.int .i64) (Kd.int .u8)))) (Q0 := fun x => (Lit.int .i64 x).wf = true) (Q1 := fun x => ((Lit.int .i64 x.1).wf = true) ∧ (((Lit.int .i64 x.2.1).wf = true) ∧ ((Lit.int .u8 x.2.2).wf = true))) (by rfl) (by kernel_rfl) opens_3 (RD.opensF_cons (d0 := (Kd.int .i64)) (d1 := (Kd.pair (Kd.int .i64) (Kd.int .u8))) (Q0 := fun x => (Lit.int .i64 x).wf = true) (Q1 := fun x => ((Lit.int .i64 x.1).wf = true) ∧ ((Lit.int .u8 x.2).wf = true)) (by rfl) (by kernel_rfl) opens_3 (RD.opensF_cons (d0 := (Kd.int .i64)) (d1 := (Kd.int .u8)) (Q0 := fun x => (Lit.int .i64 x).wf = true) (Q1 := fun x => (Lit.int .u8 x).wf = true) (by rfl) (by kernel_rfl) opens_3 (RD.opensF_one (by rfl) (by kernel_rfl) opens_5)))))
  exact RD.opens_iso (fun x : S74 => (x.f0, x.f1, x.f2, x.f3, x.f4)) (fun a => ⟨a.1, a.2.1, a.2.2.1, a.2.2.2.1, a.2.2.2.2⟩) (fun _ => rfl) h
theorem opens_68 : RD.Opens Try.prog 68 (Kd.slice 74 k74) (fun x => x.length ≤ maxLen ∧ x.length * 40 ≤ 140737488351232 ∧ ∀ y_ ∈ x, ((Lit.int .u8 y_.f0).wf = true) ∧ ((Lit.int .i64 y_.f1).wf = true) ∧ ((Lit.int .i64 y_.f2).wf = true) ∧ ((Lit.int .i64 y_.f3).wf = true) ∧ ((Lit.int .u8 y_.f4).wf = true)) := RD.opens_slice Try.underlying68 (by kernel_rfl) (by kernel_rfl) opens_74
set_option maxRecDepth 100000 in
theorem lifted (os : Os) (started : os.Started) (H : Type) (enc : TypeId × Value → H) :
    ReturnsInHanded {} Try.checked os 9 .any (Rows.ringPlaysSpec.pre6 enc Try.prog Try.f9 Rows.ringPlaysRow.domain false) (Rows.ringPlaysSpec.post enc Try.prog Try.f9 false true false false) := by
  refine returnsInHanded_of_change_sized (C := Try.checked) own started (by kernel_rfl) Try.func9
    (ChangeSpec.witness6 (enc := enc) (C := Try.checked) false ⟨#[], #[.int .i64 0, .slice none 0 0, .int .u8 0], []⟩ 16 (by kernel_rfl) (by kernel_rfl) (by kernel_rfl) (by kernel_rfl)) ?_
  intro W base args ds gs before hval0 hW hcnd hsz0 _
  have hsz : (DataW.weightsEach Try.prog (Try.f9.params.toList ++ Rows.ringPlaysSpec.plain.varTypes Try.prog) (ds ++ gs)).all (· ≤ reachBytes) = true := hsz0
  have hval : ∀ (j : Nat) t v, Try.f9.params[j]? = some t → args[j]? = some v → Value.okWide Try.prog W .any base t v := hval0
  have hW' := hW
  obtain ⟨p, q, hA0, hV, rfl, hfz, hnd⟩ := hW
  have hA : DataW.TrodAll enc Try.prog W 0 (fun _ => true) true Try.f9.params.toList args.toList ds p := hA0
  rw [Try.params9] at hA hval hsz
  obtain ⟨v0, vs0, d0, ds0, p0, q0, hargs, rfl, rfl, h0, r0⟩ := trodAll_cons hA
  obtain ⟨v1, vs1, d1, ds1, p1, q1, rfl, rfl, rfl, h1, r1⟩ := trodAll_cons r0
  obtain ⟨v2, vs2, d2, ds2, p2, q2, rfl, rfl, rfl, h2, r2⟩ := trodAll_cons r1
  obtain ⟨rfl, rfl, rfl⟩ := trodAll_nil r2
  obtain rfl : args = #[v0, v1, v2] := by cases args; simp_all
  obtain ⟨rfl, rfl⟩ := trodVars_none hV
  obtain ⟨a0, rfl, rfl, rfl, w0⟩ := open_int Try.underlying3 (hval 0 3 v0 rfl rfl) h0
  have k1 := h1
  have lt1 : ∀ x ∈ p1, x.block < W.heap.size := by obtain ⟨m, hm⟩ := k1; exact DataW.trod_lt m _ _ _ hm
  obtain ⟨x1, K1, w1⟩ := opens_68.arg hsz (j := 1) rfl rfl h1
  obtain ⟨a1, len1, cap1, rfl⟩ := okWide_slice Try.underlying68 (hval 1 68 v1 rfl rfl)
  obtain ⟨A1, c1, e1, hc1, hr1⟩ := K1
  obtain ⟨rfl, rfl, rfl⟩ : a1 = A1 ∧ len1 = x1.length ∧ cap1 = c1 := by simpa [Value.cells] using e1
  obtain ⟨a2, rfl, rfl, rfl, w2⟩ := open_int Try.underlying5 (hval 2 5 v2 rfl rfl) h2
  clear hA0 hval0 hsz0 hsz
  have h := Pure.RingPlays a0 x1 a2 w0 w1 w2
  refine (halberdlaw13_RingPlays.calls (r := true) (w := W) (hr_ := ⟨rfl⟩) (hr1 := hr1) (hc1 := hc1) (h := h)).mono fun e W' hh => ?_
  obtain ⟨he, bel0⟩ := hh
  have bel : Below W.heap.size W W' := bel0
  subst he
  exact ⟨_, rfl, _, _, _, [], _, [], hW', trodAll_mk1 (shut_bool Try.underlying4 _), (trodAll_cons_mk (shut_int Try.underlying3 w0) (trodAll_cons_mk (Below.trod laidOut (by kernel_rfl) (of_decide_eq_true (by kernel_rfl)) k1 bel lt1) (trodAll_cons_mk (shut_int Try.underlying5 w2) trodAll_mk0))), rfl, bel.frame _, fun h => by cases h⟩
theorem over : Rows.ringPlaysRow.holds Try.pinned (OpenSpec.ofChange Rows.ringPlaysSpec) :=
  OpenClaim.holds_of_wide 9 Try.f9 rfl rfl rfl rfl rfl rfl rfl ⟨rfl, rfl, rfl, rfl, rfl⟩ rfl rfl rfl rfl rfl (by kernel_rfl) Try.func9 (by kernel_rfl)
    (of_decide_eq_true (by kernel_rfl)) (by unfold Func.isWrapper; first | (rw [if_pos (by decide +kernel)]; kernel_rfl) | (rw [if_neg (by decide +kernel)]; exact ⟨rfl, rfl⟩))
    (fun os started H enc _ => lifted os started H enc)
theorem proved : Rows.RingPlaysSaid := over
#print axioms proved
end Go.Proofs.Ytgkdbhkbkpfbpaa.ringPlays
namespace Go.Proofs.Ytgkdbhkbkpfbpaa
/-- The row, under a short name, for the claim. -/
theorem ringPlays_holds : Rows.RingPlaysSaid := ringPlays.proved
end Go.Proofs.Ytgkdbhkbkpfbpaa
