/-
  No cell of these rows narrows 'for every input' (looked for: loops, veiled, ifaces, maps, wideKeys, modest, calm, conditions, laid).
  DERIVED. THE GIVEN ROWS OF THIS SEAT. 3 by the template 'for every input the law returns true; each argument reads behind the call as it read before'; 0 by the template 'total and deterministic' (their statements: YtkgmdcibjjkhlaaTotals.lean).
  GIVEN WITH THE SEED: the statements are not yours to turn. If you find one false, say at which input.
  Laid BY PROGRAM, IN A SANDBOX (cutbox-rows.mjs): the forced cells as the released guide's own fill.sh prints them over the translation 7d29ba5635f34e63… (all of the seat's roots in one cut). By AI agents, Wed Nov 11 2026. No macro, syntax, notation, axiom, sorry.
-/
import Derived.Test.YtkgmdcibjjkhlaaChecked
import GoSem.Claim
import GoSem.ClaimJoined
import GoSem.ClaimMapViews
import Derived.JoinedTies
import Derived.KernelRfl
namespace Go.Proofs.Ytkgmdcibjjkhlaa
/- THE CELL 'sum', in the pinned program and in every row, IS THE sha256 OF THE DUMP (.gsa) THAT YtkgmdcibjjkhlaaProg.lean LOADS. Nothing in Lean hashes anything: it is a label: what it is worth is what the hold of that sum in a sandbox is worth. -/
noncomputable def Try.pinned : Pinned := { name := "ytkgmdcibjjkhlaa", sum := "7d29ba5635f34e63f5de4c5dd4d97bd5cc3f4d4486872b0fd3b04cf0c48e3567", checked := Try.checked }
namespace Rows
def none {H : Type} : Left H := { results := [], args := [] }

/-- 'halberdlaw08.XferDoes': WHATEVER THE INPUT: true; the input reads as it did. -/
def xferDoesSpec : ChangeSpec := { name := "xferDoes", fn := fun _ => fun
  | [d1, d2, d3, d4] => { results := [.lit (.bool true)], args := [d1, d2, d3, d4] }
  | _ => none }
def xferDoesRow : OpenClaim := { program := "ytkgmdcibjjkhlaa", sum := "7d29ba5635f34e63f5de4c5dd4d97bd5cc3f4d4486872b0fd3b04cf0c48e3567", func := "halberd/halberdlaw08.XferDoes", spec := "xferDoes", unfollowed := true, recurses := true, apart := false }
def XferDoesSaid : Prop := xferDoesRow.holds Try.pinned (OpenSpec.ofChange xferDoesSpec)

/-- ITS FALSE NEIGHBOUR: 'it returns false'. Refute it at one input. -/
def xferDoesWrong : ChangeSpec := { name := "xferDoes", fn := fun _ => fun
  | [d1, d2, d3, d4] => { results := [.lit (.bool false)], args := [d1, d2, d3, d4] }
  | _ => none }
def XferDoesWrongFalsely : Prop := xferDoesRow.holds Try.pinned (OpenSpec.ofChange xferDoesWrong)

/-- 'halberdlaw08.XferSound': WHATEVER THE INPUT: true; the input reads as it did. -/
def xferSoundSpec : ChangeSpec := { name := "xferSound", fn := fun _ => fun
  | [d1, d2, d3, d4, d5, d6] => { results := [.lit (.bool true)], args := [d1, d2, d3, d4, d5, d6] }
  | _ => none }
def xferSoundRow : OpenClaim := { program := "ytkgmdcibjjkhlaa", sum := "7d29ba5635f34e63f5de4c5dd4d97bd5cc3f4d4486872b0fd3b04cf0c48e3567", func := "halberd/halberdlaw08.XferSound", spec := "xferSound", unfollowed := true, recurses := true, apart := false }
def XferSoundSaid : Prop := xferSoundRow.holds Try.pinned (OpenSpec.ofChange xferSoundSpec)

/-- ITS FALSE NEIGHBOUR: 'it returns false'. Refute it at one input. -/
def xferSoundWrong : ChangeSpec := { name := "xferSound", fn := fun _ => fun
  | [d1, d2, d3, d4, d5, d6] => { results := [.lit (.bool false)], args := [d1, d2, d3, d4, d5, d6] }
  | _ => none }
def XferSoundWrongFalsely : Prop := xferSoundRow.holds Try.pinned (OpenSpec.ofChange xferSoundWrong)

/-- 'halberdlaw08.XferNear': WHATEVER THE INPUT: true; the input reads as it did. -/
def xferNearSpec : ChangeSpec := { name := "xferNear", fn := fun _ => fun
  | [d1, d2, d3, d4] => { results := [.lit (.bool true)], args := [d1, d2, d3, d4] }
  | _ => none }
def xferNearRow : OpenClaim := { program := "ytkgmdcibjjkhlaa", sum := "7d29ba5635f34e63f5de4c5dd4d97bd5cc3f4d4486872b0fd3b04cf0c48e3567", func := "halberd/halberdlaw08.XferNear", spec := "xferNear", unfollowed := true, recurses := true, apart := false }
def XferNearSaid : Prop := xferNearRow.holds Try.pinned (OpenSpec.ofChange xferNearSpec)

/-- ITS FALSE NEIGHBOUR: 'it returns false'. Refute it at one input. -/
def xferNearWrong : ChangeSpec := { name := "xferNear", fn := fun _ => fun
  | [d1, d2, d3, d4] => { results := [.lit (.bool false)], args := [d1, d2, d3, d4] }
  | _ => none }
def XferNearWrongFalsely : Prop := xferNearRow.holds Try.pinned (OpenSpec.ofChange xferNearWrong)

/- THE SECOND FORM. 'bulk': how many values and letters a reading holds, each counted each time it is reached (what is shared counts as often as it is met; a slice's spare places count too). A statement '..UptoSaid' is the law's where the arguments, and the package variables that the reading takes, are together of bulk at most 1048576: NARROWER than '..Said'. Prove '..Said' where nothing that the law and all that it calls make is longer than what came in: it says more and counts as full. Else prove '..UptoSaid'. A law counts once. -/
mutual
def uptoBulk {H : Type} : DataW H → Nat
  | .lit (.string bytes) => bytes.length + 1
  | .lit _ => 1
  | .nil => 1
  | .ptr d => uptoBulk d + 1
  | .slice elems spare => uptoBulkAll elems + uptoBulkAll spare + 1
  | .agg parts => uptoBulkAll parts + 1
  | .iface _ d => uptoBulk d + 1
  | .map entries => uptoBulkEntries entries + 1
  | .held _ => 1
def uptoBulkAll {H : Type} : List (DataW H) → Nat
  | [] => 0
  | d :: r => uptoBulk d + uptoBulkAll r
def uptoBulkEntries {H : Type} : List (Lit × DataW H) → Nat
  | [] => 0
  | x :: r => uptoBulkEntry x + uptoBulkEntries r
def uptoBulkEntry {H : Type} : Lit × DataW H → Nat
  | (.string bytes, d) => bytes.length + uptoBulk d + 1
  | (_, d) => uptoBulk d + 1
 end
def uptoSmall : (H : Type) → List (DataW H) → Bool := fun _ ds => decide (uptoBulkAll ds ≤ 1048576)
def OpenSpec.upto (s : _root_.Go.ChangeSpec) : _root_.Go.OpenSpec := { _root_.Go.OpenSpec.ofChange s with cond := some uptoSmall }

/-- 'halberdlaw08.XferDoes', WHERE WHAT IT READS IS OF BULK AT MOST 1048576: true; the input reads as it did. -/
def xferDoesUptoRow : OpenClaim := { program := "ytkgmdcibjjkhlaa", sum := "7d29ba5635f34e63f5de4c5dd4d97bd5cc3f4d4486872b0fd3b04cf0c48e3567", func := "halberd/halberdlaw08.XferDoes", spec := "xferDoes", unfollowed := true, recurses := true, apart := false, narrowed := true }
def XferDoesUptoSaid : Prop := xferDoesUptoRow.holds Try.pinned (OpenSpec.upto xferDoesSpec)

/-- 'halberdlaw08.XferSound', WHERE WHAT IT READS IS OF BULK AT MOST 1048576: true; the input reads as it did. -/
def xferSoundUptoRow : OpenClaim := { program := "ytkgmdcibjjkhlaa", sum := "7d29ba5635f34e63f5de4c5dd4d97bd5cc3f4d4486872b0fd3b04cf0c48e3567", func := "halberd/halberdlaw08.XferSound", spec := "xferSound", unfollowed := true, recurses := true, apart := false, narrowed := true }
def XferSoundUptoSaid : Prop := xferSoundUptoRow.holds Try.pinned (OpenSpec.upto xferSoundSpec)

/-- 'halberdlaw08.XferNear', WHERE WHAT IT READS IS OF BULK AT MOST 1048576: true; the input reads as it did. -/
def xferNearUptoRow : OpenClaim := { program := "ytkgmdcibjjkhlaa", sum := "7d29ba5635f34e63f5de4c5dd4d97bd5cc3f4d4486872b0fd3b04cf0c48e3567", func := "halberd/halberdlaw08.XferNear", spec := "xferNear", unfollowed := true, recurses := true, apart := false, narrowed := true }
def XferNearUptoSaid : Prop := xferNearUptoRow.holds Try.pinned (OpenSpec.upto xferNearSpec)

end Rows
end Go.Proofs.Ytkgmdcibjjkhlaa
