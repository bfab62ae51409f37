/- The law PermsStat holds for all its arguments: the given statement, out of the plain law and the walks of the functions; no conditions. -/
import Derived.Test.YtkbngkhajkhfgaaDoorRows
import Derived.Test.YtkbngkhajkhfgaaDoorPPermsStatx3
import Derived.Test.YtkbngkhajkhfgaaDoorPurePermsStat
import Derived.Test.YtkbngkhajkhfgaaDoorRD
import Derived.Test.YtkbngkhajkhfgaaDoorWSized
import Derived.Test.YtkbngkhajkhfgaaDoorCards
import Derived.Test.YtkbngkhajkhfgaaDoorTie
import Derived.WalkKit
import Derived.Handed
import Derived.LaidMore
import Derived.SevenTiedAt
import Derived.Stop.Joined
import Derived.ProofKit
import Derived.OpenShut
import Derived.ShutString
import Derived.ChangeOld
import Derived.Below
import Derived.SizedLaws
namespace Go.Proofs.YtkbngkhajkhfgaaDoor.permsStat
open Go.ChangeShapes Go.WideShapes Go.ChangeAt Go.RowKit Go.Proofs.YtkbngkhajkhfgaaDoor.PPermsStat Go.Proofs.YtkbngkhajkhfgaaDoorW.PrintWords Go.Proofs.YtkbngkhajkhfgaaDoorW.PrintLast Go.Proofs.YtkbngkhajkhfgaaDoorW.PrintMore
open Go.ChangeMaps (open_string shut_string)
set_option linter.unusedVariables false
theorem own : ownKnob Tryd.prog.godebug = none := by kernel_rfl
theorem laidOut : laidOutB Tryd.prog = true := by kernel_rfl
theorem opens_3 : RD.Opens Tryd.prog 3 (Kd.int .i64) (fun x => (Lit.int .i64 x).wf = true) := RD.opens_int Tryd.underlying3 (by kernel_rfl)
theorem opens_9 : RD.Opens Tryd.prog 9 Kd.string (fun s => s.size ≤ 140737488351232) := RD.opens_string Tryd.underlying9 (by kernel_rfl)
theorem opens_28 : RD.Opens Tryd.prog 28 (Kd.slice 9 Kd.string) (fun x => x.length ≤ maxLen ∧ x.length * 16 ≤ 140737488351232 ∧ ∀ y_ ∈ x, y_.size ≤ 140737488351232) := RD.opens_slice Tryd.underlying28 (by kernel_rfl) (by kernel_rfl) opens_9
theorem opens_29 : RD.Opens Tryd.prog 29 (Kd.slice 3 (Kd.int .i64)) (fun x => x.length ≤ maxLen ∧ x.length * 8 ≤ 140737488351232 ∧ ∀ y_ ∈ x, (Lit.int .i64 y_).wf = true) := RD.opens_slice Tryd.underlying29 (by kernel_rfl) (by kernel_rfl) opens_3
theorem opens_31 : RD.Opens Tryd.prog 31 k31 (fun x => ((Lit.int .i64 x.f0).wf = true) ∧ ((Lit.int .i64 x.f1).wf = true) ∧ ((Lit.int .i64 x.f2).wf = true) ∧ ((Lit.int .i64 x.f3).wf = true) ∧ ((Lit.int .i64 x.f4).wf = true) ∧ ((Lit.int .i64 x.f5).wf = true) ∧ ((Lit.int .i64 x.f6).wf = true) ∧ (x.f7.size ≤ 140737488351232) ∧ (x.f8.length ≤ maxLen ∧ x.f8.length * 16 ≤ 140737488351232 ∧ ∀ y_ ∈ x.f8, y_.size ≤ 140737488351232) ∧ (x.f9.length ≤ maxLen ∧ x.f9.length * 8 ≤ 140737488351232 ∧ ∀ y_ ∈ x.f9, (Lit.int .i64 y_).wf = true) ∧ ((Lit.int .i64 x.f10).wf = true)) := by
  have h := RD.opens_struct (P := Tryd.prog) (t := 31) (d := (Kd.pair (Kd.int .i64) (Kd.pair (Kd.int .i64) (Kd.pair (Kd.int .i64) (Kd.pair (Kd.int .i64) (Kd.pair (Kd.int .i64) (Kd.pair (Kd.int .i64) (Kd.pair (Kd.int .i64) (Kd.pair Kd.string (Kd.pair (Kd.slice 9 Kd.string) (Kd.pair (Kd.slice 3 (Kd.int .i64)) (Kd.int .i64)))))))))))) (Q := fun x => ((Lit.int .i64 x.1).wf = true) ∧ (((Lit.int .i64 x.2.1).wf = true) ∧ (((Lit.int .i64 x.2.2.1).wf = true) ∧ (((Lit.int .i64 x.2.2.2.1).wf = true) ∧ (((Lit.int .i64 x.2.2.2.2.1).wf = true) ∧ (((Lit.int .i64 x.2.2.2.2.2.1).wf = true) ∧ (((Lit.int .i64 x.2.2.2.2.2.2.1).wf = true) ∧ ((x.2.2.2.2.2.2.2.1.size ≤ 140737488351232) ∧ ((x.2.2.2.2.2.2.2.2.1.length ≤ maxLen ∧ x.2.2.2.2.2.2.2.2.1.length * 16 ≤ 140737488351232 ∧ ∀ y_ ∈ x.2.2.2.2.2.2.2.2.1, y_.size ≤ 140737488351232) ∧ ((x.2.2.2.2.2.2.2.2.2.1.length ≤ maxLen ∧ x.2.2.2.2.2.2.2.2.2.1.length * 8 ≤ 140737488351232 ∧ ∀ y_ ∈ x.2.2.2.2.2.2.2.2.2.1, (Lit.int .i64 y_).wf = true) ∧ ((Lit.int .i64 x.2.2.2.2.2.2.2.2.2.2).wf = true))))))))))) Tryd.underlying31 (by kernel_rfl) (RD.opensF_cons (d0 := (Kd.int .i64)) (d1 := (Kd.pair (Kd.int .i64) (Kd.pair (Kd.int .i64) (Kd.pair (Kd.int .i64) (Kd.pair (Kd.int .i64) (Kd.pair (Kd.int .i64) (Kd.pair (Kd.int .i64) (Kd.pair Kd.string (Kd.pair (Kd.slice 9 Kd.string) (Kd.pair (Kd.slice 3 (Kd.int .i64)) (Kd.int .i64))))))))))) (Q0 := fun x => (Lit.int .i64 x).wf = true) (Q1 := fun x => ((Lit.int .i64 x.1).wf = true) ∧ (((Lit.int .i64 x.2.1).wf = true) ∧ (((Lit.int .i64 x.2.2.1).wf = true) ∧ (((Lit.int .i64 x.2.2.2.1).wf = true) ∧ (((Lit.int .i64 x.2.2.2.2.1).wf = true) ∧ (((Lit.int .i64 x.2.2.2.2.2.1).wf = true) ∧ ((x.2.2.2.2.2.2.1.size ≤ 140737488351232) ∧ ((x.2.2.2.2.2.2.2.1.length ≤ maxLen ∧ x.2.2.2.2.2.2.2.1.length * 16 ≤ 140737488351232 ∧ ∀ y_ ∈ x.2.2.2.2.2.2.2.1, y_.size ≤ 140737488351232) ∧ ((x.2.2.2.2.2.2.2.2.1.length ≤ maxLen ∧ x.2.2.2.2.2.2.2.2.1.length * 8 ≤ 140737488351232 ∧ ∀ y_ ∈ x.2.2.2.2.2.2.2.2.1, (Lit.int .i64 y_).wf = true) ∧ ((Lit.int .i64 x.2.2.2.2.2.2.2.2.2).wf = true)))))))))) (by rfl) (by kernel_rfl) opens_3 (RD.opensF_cons (d0 := (Kd.int .i64)) (d1 := (Kd.pair (Kd.int .i64) (Kd.pair (Kd.int .i64) (Kd.pair (Kd.int .i64) (Kd.pair (Kd.int .i64) (Kd.pair (Kd.int .i64) (Kd.pair Kd.string (Kd.pair (Kd.slice 9 Kd.string) (Kd.pair (Kd.slice 3 (Kd.int .i64)) (Kd.int .i64)))))))))) (Q0 := fun x => (Lit.int .i64 x).wf = true) (Q1 := fun x => ((Lit.int .i64 x.1).wf = true) ∧ (((Lit.int .i64 x.2.1).wf = true) ∧ (((Lit.int .i64 x.2.2.1).wf = true) ∧ (((Lit.int .i64 x.2.2.2.1).wf = true) ∧ (((Lit.int .i64 x.2.2.2.2.1).wf = true) ∧ ((x.2.2.2.2.2.1.size ≤ 140737488351232) ∧ ((x.2.2.2.2.2.2.1.length ≤ maxLen ∧ x.2.2.2.2.2.2.1.length * 16 ≤ 140737488351232 ∧ ∀ y_ ∈ x.2.2.2.2.2.2.1, y_.size ≤ 140737488351232) ∧ ((x.2.2.2.2.2.2.2.1.length ≤ maxLen ∧ x.2.2.2.2.2.2.2.1.length * 8 ≤ 140737488351232 ∧ ∀ y_ ∈ x.2.2.2.2.2.2.2.1, (Lit.int .i64 y_).wf = true) ∧ ((Lit.int .i64 x.2.2.2.2.2.2.2.2).wf = true))))))))) (by rfl) (by kernel_rfl) opens_3 (RD.opensF_cons (d0 := (Kd.int .i64)) (d1 := (Kd.pair (Kd.int .i64) (Kd.pair (Kd.int .i64) (Kd.pair (Kd.int .i64) (Kd.pair (Kd.int .i64) (Kd.pair Kd.string (Kd.pair (Kd.slice 9 Kd.string) (Kd.pair (Kd.slice 3 (Kd.int .i64)) (Kd.int .i64))))))))) (Q0 := fun x => (Lit.int .i64 x).wf = true) (Q1 := fun x => ((Lit.int .i64 x.1).wf = true) ∧ (((Lit.int .i64 x.2.1).wf = true) ∧ (((Lit.int .i64 x.2.2.1).wf = true) ∧ (((Lit.int .i64 x.2.2.2.1).wf = true) ∧ ((x.2.2.2.2.1.size ≤ 140737488351232) ∧ ((x.2.2.2.2.2.1.length ≤ maxLen ∧ x.2.2.2.2.2.1.length * 16 ≤ 140737488351232 ∧ ∀ y_ ∈ x.2.2.2.2.2.1, y_.size ≤ 140737488351232) ∧ ((x.2.2.2.2.2.2.1.length ≤ maxLen ∧ x.2.2.2.2.2.2.1.length * 8 ≤ 140737488351232 ∧ ∀ y_ ∈ x.2.2.2.2.2.2.1, (Lit.int .i64 y_).wf = true) ∧ ((Lit.int .i64 x.2.2.2.2.2.2.2).wf = true)))))))) (by rfl) (by kernel_rfl) opens_3 (RD.opensF_cons (d0 := (Kd.int .i64)) (d1 := (Kd.pair (Kd.int .i64) (Kd.pair (Kd.int .i64) (Kd.pair (Kd.int .i64) (Kd.pair Kd.string (Kd.pair (Kd.slice 9 Kd.string) (Kd.pair (Kd.slice 3 (Kd.int .i64)) (Kd.int .i64)))))))) (Q0 := fun x => (Lit.int .i64 x).wf = true) (Q1 := fun x => ((Lit.int .i64 x.1).wf = true) ∧ (((Lit.int .i64 x.2.1).wf = true) ∧ (((Lit.int .i64 x.2.2.1).wf = true) ∧ ((x.2.2.2.1.size ≤ 140737488351232) ∧ ((x.2.2.2.2.1.length ≤ maxLen ∧ x.2.2.2.2.1.length * 16 ≤ 140737488351232 ∧ ∀ y_ ∈ x.2.2.2.2.1, y_.size ≤ 140737488351232) ∧ ((x.2.2.2.2.2.1.length ≤ maxLen ∧ x.2.2.2.2.2.1.length * 8 ≤ 140737488351232 ∧ ∀ y_ ∈ x.2.2.2.2.2.1, (Lit.int .i64 y_).wf = true) ∧ ((Lit.int .i64 x.2.2.2.2.2.2).wf = true))))))) (by rfl) (by kernel_rfl) opens_3 (RD.opensF_cons (d0 := (Kd.int .i64)) (d1 := (Kd.pair (Kd.int .i64) (Kd.pair (Kd.int .i64) (Kd.pair Kd.string (Kd.pair (Kd.slice 9 Kd.string) (Kd.pair (Kd.slice 3 (Kd.int .i64)) (Kd.int .i64))))))) (Q0 := fun x => (Lit.int .i64 x).wf = true) (Q1 := fun x => ((Lit.int .i64 x.1).wf = true) ∧ (((Lit.int .i64 x.2.1).wf = true) ∧ ((x.2.2.1.size ≤ 140737488351232) ∧ ((x.2.2.2.1.length ≤ maxLen ∧ x.2.2.2.1.length * 16 ≤ 140737488351232 ∧ ∀ y_ ∈ x.2.2.2.1, y_.size ≤ 140737488351232) ∧ ((x.2.2.2.2.1.length ≤ maxLen ∧ x.2.2.2.2.1.length * 8 ≤ 140737488351232 ∧ ∀ y_ ∈ x.2.2.2.2.1, (Lit.int .i64 y_).wf = true) ∧ ((Lit.int .i64 x.2.2.2.2.2).wf = true)))))) (by rfl) (by kernel_rfl) opens_3 (RD.opensF_cons (d0 := (Kd.int .i64)) (d1 := (Kd.pair (Kd.int .i64) (Kd.pair Kd.string (Kd.pair (Kd.slice 9 Kd.string) (Kd.pair (Kd.slice 3 (Kd.int .i64)) (Kd.int .i64)))))) (Q0 := fun x => (Lit.int .i64 x).wf = true) (Q1 := fun x => ((Lit.int .i64 x.1).wf = true) ∧ ((x.2.1.size ≤ 140737488351232) ∧ ((x.2.2.1.length ≤ maxLen ∧ x.2.2.1.length * 16 ≤ 140737488351232 ∧ ∀ y_ ∈ x.2.2.1, y_.size ≤ 140737488351232) ∧ ((x.2.2.2.1.length ≤ maxLen ∧ x.2.2.2.1.length * 8 ≤ 140737488351232 ∧ ∀ y_ ∈ x.2.2.2.1, (Lit.int .i64 y_).wf = true) ∧ ((Lit.int .i64 x.2.2.2.2).wf = true))))) (by rfl) (by kernel_rfl) opens_3 (RD.opensF_cons (d0 := (Kd.int .i64)) (d1 := (Kd.pair Kd.string (Kd.pair (Kd.slice 9 Kd.string) (Kd.pair (Kd.slice 3 (Kd.int .i64)) (Kd.int .i64))))) (Q0 := fun x => (Lit.int .i64 x).wf = true) (Q1 := fun x => (x.1.size ≤ 140737488351232) ∧ ((x.2.1.length ≤ maxLen ∧ x.2.1.length * 16 ≤ 140737488351232 ∧ ∀ y_ ∈ x.2.1, y_.size ≤ 140737488351232) ∧ ((x.2.2.1.length ≤ maxLen ∧ x.2.2.1.length * 8 ≤ 140737488351232 ∧ ∀ y_ ∈ x.2.2.1, (Lit.int .i64 y_).wf = true) ∧ ((Lit.int .i64 x.2.2.2).wf = true)))) (by rfl) (by kernel_rfl) opens_3 (RD.opensF_cons (d0 := Kd.string) (d1 := (Kd.pair (Kd.slice 9 Kd.string) (Kd.pair (Kd.slice 3 (Kd.int .i64)) (Kd.int .i64)))) (Q0 := fun x => x.size ≤ 140737488351232) (Q1 := fun x => (x.1.length ≤ maxLen ∧ x.1.length * 16 ≤ 140737488351232 ∧ ∀ y_ ∈ x.1, y_.size ≤ 140737488351232) ∧ ((x.2.1.length ≤ maxLen ∧ x.2.1.length * 8 ≤ 140737488351232 ∧ ∀ y_ ∈ x.2.1, (Lit.int .i64 y_).wf = true) ∧ ((Lit.int .i64 x.2.2).wf = true))) (by rfl) (by kernel_rfl) opens_9 (RD.opensF_cons (d0 := (Kd.slice 9 Kd.string)) (d1 := (Kd.pair (Kd.slice 3 (Kd.int .i64)) (Kd.int .i64))) (Q0 := fun x => x.length ≤ maxLen ∧ x.length * 16 ≤ 140737488351232 ∧ ∀ y_ ∈ x, y_.size ≤ 140737488351232) (Q1 := fun x => (x.1.length ≤ maxLen ∧ x.1.length * 8 ≤ 140737488351232 ∧ ∀ y_ ∈ x.1, (Lit.int .i64 y_).wf = true) ∧ ((Lit.int .i64 x.2).wf = true)) (by rfl) (by kernel_rfl) opens_28 (RD.opensF_cons (d0 := (Kd.slice 3 (Kd.int .i64))) (d1 := (Kd.int .i64)) (Q0 := fun x => x.length ≤ maxLen ∧ x.length * 8 ≤ 140737488351232 ∧ ∀ y_ ∈ x, (Lit.int .i64 y_).wf = true) (Q1 := fun x => (Lit.int .i64 x).wf = true) (by rfl) (by kernel_rfl) opens_29 (RD.opensF_one (by rfl) (by kernel_rfl) opens_3)))))))))))
  exact RD.opens_iso (fun x : S31 => (x.f0, x.f1, x.f2, x.f3, x.f4, x.f5, x.f6, x.f7, x.f8, x.f9, x.f10)) (fun a => ⟨a.1, a.2.1, a.2.2.1, a.2.2.2.1, a.2.2.2.2.1, a.2.2.2.2.2.1, a.2.2.2.2.2.2.1, a.2.2.2.2.2.2.2.1, a.2.2.2.2.2.2.2.2.1, a.2.2.2.2.2.2.2.2.2.1, a.2.2.2.2.2.2.2.2.2.2⟩) (fun _ => rfl) h
/-- The table of powers, out of the row's condition. -/
theorem tab_of {W : World} (h : laidMetH Tryd.prog Rows.permsStatRow.laid W) : stat_tab W := by
  rw [MakeChecks.laidMetH_plain _ _ _ (by kernel_rfl)] at h
  obtain ⟨ps, ⟨_, _, _, _, _, _, _, _, _, _, ⟨_, _, _, _, _, _, _, _, _, _, ⟨g2, t2, cs2, f2, p2, q2, hg2, ht2, hv2, hd2, _, _⟩, _⟩, _⟩, _, _⟩ := h
  have gn : Tryd.prog.globalNamed "internal/strconv.uint64pow10" = some 0 := by kernel_rfl
  obtain rfl := Option.some.inj (gn.symm.trans hg2)
  have ty : (Tryd.prog.globals[0]?).map (·.type) = some 68 := by kernel_rfl
  obtain rfl := Option.some.inj (ty.symm.trans ht2)
  unfold stat_tab Lib.TabIs
  rw [hv2, ← Lib.cells_of_tab (zs := Lib.pow10Tab) Tryd.underlying68 Tryd.underlying59 (by kernel_rfl) (by kernel_rfl) hd2]
/-- The door's own heap meets the condition: closed facts. -/
theorem door_met (os : Os) (args : Array Value) : laidMetH Tryd.prog Rows.permsStatRow.laid ((World.doorLaid Tryd.prog 400 os).forCall (fun _ _ => 0) ⟨#[], args, []⟩).memory :=
  laidMetH_of_parts3 (fuel := 8) (laidMet_of_run' 8 (by kernel_rfl) (by kernel_rfl)) (by kernel_rfl) (by kernel_rfl)
set_option maxRecDepth 100000 in
theorem lifted (os : Os) (started : os.Started) (H : Type) (enc : TypeId × Value → H) :
    ReturnsInHanded {} Tryd.checked os 4 .any (fun w args => (Rows.permsStatSpec.pre enc Tryd.prog Tryd.f4 [] false w args ∧ laidMetH Tryd.prog Rows.permsStatRow.laid w) ∧ sizedMet enc Tryd.prog Tryd.f4 (OpenSpec.ofChange Rows.permsStatSpec) false w args) (Rows.permsStatSpec.post enc Tryd.prog Tryd.f4 false true false false) := by
  refine returnsInHanded_of_change_and (C := Tryd.checked) (X := fun w _ => laidMetH Tryd.prog Rows.permsStatRow.laid w) (fun _ _ _ hh h => h.of_heap hh) own started (by kernel_rfl) Tryd.func4
    (ChangeSpec.witness_shaped (enc := enc) (C := Tryd.checked) (os := os) (X := fun w _ => laidMetH Tryd.prog Rows.permsStatRow.laid w) false (World.doorLaid Tryd.prog 400 os) #[.agg #[.int .i64 0, .int .i64 0, .int .i64 0, .int .i64 0, .int .i64 0, .int .i64 0, .int .i64 0, .string ByteArray.empty, .slice none 0 0, .slice none 0 0, .int .i64 0]] 16 rfl (World.shaped_of_RefB (by kernel_rfl) (by kernel_rfl)) (by kernel_rfl) (by kernel_rfl) (by kernel_rfl) (door_met os _)) ?_
  intro W base args ds gs before hval0 hW hcnd hsz0 hL_ _
  have hsz : (DataW.weightsEach Tryd.prog (Tryd.f4.params.toList ++ Rows.permsStatSpec.plain.varTypes Tryd.prog) (ds ++ gs)).all (· ≤ reachBytes) = true := hsz0
  have hval : ∀ (j : Nat) t v, Tryd.f4.params[j]? = some t → args[j]? = some v → Value.okWide Tryd.prog W .any base t v := hval0
  have hW' := hW
  obtain ⟨p, q, hA0, hV, rfl, hfz, hnd⟩ := hW
  have hA : DataW.TrodAll enc Tryd.prog W 0 (fun _ => true) true Tryd.f4.params.toList args.toList ds p := hA0
  rw [Tryd.params4] at hA hval hsz
  obtain ⟨v0, vs0, d0, ds0, p0, q0, hargs, rfl, rfl, h0, r0⟩ := trodAll_cons hA
  obtain ⟨rfl, rfl, rfl⟩ := trodAll_nil r0
  obtain rfl : args = #[v0] := by cases args; simp_all
  obtain ⟨rfl, rfl⟩ := trodVars_none hV
  have k0 := h0
  have lt0 : ∀ x ∈ p0, x.block < W.heap.size := by obtain ⟨m, hm⟩ := k0; exact DataW.trod_lt m _ _ _ hm
  obtain ⟨x0, K0, w0⟩ := opens_31.arg hsz (j := 0) rfl rfl h0
  obtain ⟨cs0, rfl, _⟩ := okWide_struct Tryd.underlying31 (hval 0 31 v0 rfl rfl)
  obtain ⟨A0_8, c0_8, A0_9, c0_9, e0, hc0_8, hr0_8, hc0_9, hr0_9⟩ := k31_open K0
  obtain rfl : cs0 = #[.int .i64 x0.f0, .int .i64 x0.f1, .int .i64 x0.f2, .int .i64 x0.f3, .int .i64 x0.f4, .int .i64 x0.f5, .int .i64 x0.f6, .string x0.f7, .slice A0_8 x0.f8.length c0_8, .slice A0_9 x0.f9.length c0_9, .int .i64 x0.f10] := Array.toList_inj.1 e0
  clear hA0 hval0 hsz0 hsz
  obtain ⟨k, h⟩ := Pure.PermsStat x0.f0 x0.f1 x0.f2 x0.f3 x0.f4 x0.f5 x0.f6 x0.f7 x0.f8 x0.f9 x0.f10 w0
  refine (halberdlaw23_PermsStat.calls (r := true) (w := W) (hr_ := ⟨rfl⟩) (hT := tab_of hL_) (hr0_8 := hr0_8) (hc0_8 := hc0_8) (hr0_9 := hr0_9) (hc0_9 := hc0_9) (h := h)).mono fun e W' hh => ?_
  obtain ⟨he, bel0⟩ := hh
  have bel : Below W.heap.size W W' := bel0
  subst he
  exact ⟨_, rfl, _, _, _, [], _, [], hW', trodAll_mk1 (shut_bool Tryd.underlying4 _), (trodAll_cons_mk (Below.trod laidOut (by kernel_rfl) (of_decide_eq_true (by kernel_rfl)) k0 bel lt0) trodAll_mk0), rfl, bel.frame _, fun h => by cases h⟩
theorem over : Rows.permsStatRow.holds Tryd.pinned (OpenSpec.ofChange Rows.permsStatSpec) :=
  OpenClaim.holds_of_wide 4 Tryd.f4 rfl rfl rfl rfl rfl rfl rfl ⟨rfl, rfl, rfl, rfl, rfl⟩ rfl rfl rfl rfl rfl (by kernel_rfl) Tryd.func4 (by kernel_rfl)
    (of_decide_eq_true (by kernel_rfl)) (by unfold Func.isWrapper; first | (rw [if_pos (by decide +kernel)]; kernel_rfl) | (rw [if_neg (by decide +kernel)]; exact ⟨rfl, rfl⟩))
    (fun os started H enc _ => lifted os started H enc)
theorem said : Rows.PermsStatSaid := over
theorem proved : Rows.PermsStatCardSaid :=
  Claim7.holds_tied_plain_at .later [] [.data, .data, .data] true (true, "e93be35369b1479d7aa598a8569b277e61265da3e8ce1b5a50cbbc77956f2a39") false
    said (fun _ h => by cases h) (by kernel_rfl) (fun _ h => by cases h) permsStat_row_tie rfl ⟨rfl, rfl⟩ (by kernel_rfl) rfl
    (fun f fn hf hfn => by
      obtain rfl : f = 4 := Option.some.inj ((show Tryd.prog.funcNamed "halberd/halberdlaw23.PermsStat" = some 4 by kernel_rfl).symm.trans hf) |>.symm
      obtain rfl : fn = Tryd.f4 := (Option.some.inj (Tryd.func4.symm.trans hfn)).symm
      refine ⟨by kernel_rfl, fun j t ht => ?_⟩
      have hall : (Tryd.f4.params.toList.all fun u => !Tryd.prog.wantsStandIn u) = true := by kernel_rfl
      have hm : t ∈ Tryd.f4.params.toList := by simpa using Array.mem_of_getElem? ht
      exact (show Tryd.prog.wantsStandIn t = false by simpa using List.all_eq_true.1 hall t hm))
    (by kernel_rfl)
#print axioms proved
end Go.Proofs.YtkbngkhajkhfgaaDoor.permsStat
namespace Go.Proofs.YtkbngkhajkhfgaaDoor
/-- The row, under a short name, for the claim. -/
theorem permsStat_holds : Rows.PermsStatCardSaid := permsStat.proved
end Go.Proofs.YtkbngkhajkhfgaaDoor
