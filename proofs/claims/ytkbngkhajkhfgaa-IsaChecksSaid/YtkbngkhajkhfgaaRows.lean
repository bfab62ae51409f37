/-
  No cell of these rows narrows 'for every input' (looked for: loops, veiled, ifaces, maps, wideKeys, modest, calm, conditions, laid).
  DERIVED. THE GIVEN ROWS OF THIS SEAT. 6 by the template 'for every input the law returns true; each argument reads behind the call as it read before'; 0 by the template 'total and deterministic' (their statements: YtkbngkhajkhfgaaTotals.lean).
  GIVEN WITH THE SEED: the statements are not yours to turn. If you find one false, say at which input.
  Laid BY PROGRAM, IN A SANDBOX (cutbox-rows.mjs): the forced cells as the released guide's own fill.sh prints them over the translation 33143d218f50a773… (all of the seat's roots in one cut). By AI agents, Wed Nov 11 2026. No macro, syntax, notation, axiom, sorry.
-/
import Derived.Test.YtkbngkhajkhfgaaChecked
import GoSem.Claim
import GoSem.ClaimJoined
import GoSem.ClaimMapViews
import Derived.JoinedTies
import Derived.KernelRfl
namespace Go.Proofs.Ytkbngkhajkhfgaa
/- THE CELL 'sum', in the pinned program and in every row, IS THE sha256 OF THE DUMP (.gsa) THAT YtkbngkhajkhfgaaProg.lean LOADS. Nothing in Lean hashes anything: it is a label: what it is worth is what the hold of that sum in a sandbox is worth. -/
noncomputable def Try.pinned : Pinned := { name := "ytkbngkhajkhfgaa", sum := "33143d218f50a77356927b7bf3939ab8da0dc05221218f393349f3363652bdf8", checked := Try.checked }
namespace Rows
def none {H : Type} : Left H := { results := [], args := [] }

/-- 'halberdlaw03.IsaRight': WHATEVER THE INPUT: true; the input reads as it did. -/
def isaRightSpec : ChangeSpec := { name := "isaRight", fn := fun _ => fun
  | [d] => { results := [.lit (.bool true)], args := [d] }
  | _ => none }
def isaRightRow : OpenClaim := { program := "ytkbngkhajkhfgaa", sum := "33143d218f50a77356927b7bf3939ab8da0dc05221218f393349f3363652bdf8", func := "halberd/halberdlaw03.IsaRight", spec := "isaRight", unfollowed := true, recurses := true, apart := false }
def IsaRightSaid : Prop := isaRightRow.holds Try.pinned (OpenSpec.ofChange isaRightSpec)

/-- ITS FALSE NEIGHBOUR: 'it returns false'. Refute it at one input. -/
def isaRightWrong : ChangeSpec := { name := "isaRight", fn := fun _ => fun
  | [d] => { results := [.lit (.bool false)], args := [d] }
  | _ => none }
def IsaRightWrongFalsely : Prop := isaRightRow.holds Try.pinned (OpenSpec.ofChange isaRightWrong)

/-- 'halberdlaw03.IsaChecks': WHATEVER THE INPUT: true; the input reads as it did. -/
def isaChecksSpec : ChangeSpec := { name := "isaChecks", fn := fun _ => fun
  | [d1, d2] => { results := [.lit (.bool true)], args := [d1, d2] }
  | _ => none }
def isaChecksRow : OpenClaim := { program := "ytkbngkhajkhfgaa", sum := "33143d218f50a77356927b7bf3939ab8da0dc05221218f393349f3363652bdf8", func := "halberd/halberdlaw03.IsaChecks", spec := "isaChecks", unfollowed := true, recurses := true, apart := false }
def IsaChecksSaid : Prop := isaChecksRow.holds Try.pinned (OpenSpec.ofChange isaChecksSpec)

/-- ITS FALSE NEIGHBOUR: 'it returns false'. Refute it at one input. -/
def isaChecksWrong : ChangeSpec := { name := "isaChecks", fn := fun _ => fun
  | [d1, d2] => { results := [.lit (.bool false)], args := [d1, d2] }
  | _ => none }
def IsaChecksWrongFalsely : Prop := isaChecksRow.holds Try.pinned (OpenSpec.ofChange isaChecksWrong)

/-- 'halberdlaw03.IsaEnds': WHATEVER THE INPUT: true; the input reads as it did. -/
def isaEndsSpec : ChangeSpec := { name := "isaEnds", fn := fun _ => fun
  | [d1, d2, d3] => { results := [.lit (.bool true)], args := [d1, d2, d3] }
  | _ => none }
def isaEndsRow : OpenClaim := { program := "ytkbngkhajkhfgaa", sum := "33143d218f50a77356927b7bf3939ab8da0dc05221218f393349f3363652bdf8", func := "halberd/halberdlaw03.IsaEnds", spec := "isaEnds", unfollowed := true, recurses := true, apart := false }
def IsaEndsSaid : Prop := isaEndsRow.holds Try.pinned (OpenSpec.ofChange isaEndsSpec)

/-- ITS FALSE NEIGHBOUR: 'it returns false'. Refute it at one input. -/
def isaEndsWrong : ChangeSpec := { name := "isaEnds", fn := fun _ => fun
  | [d1, d2, d3] => { results := [.lit (.bool false)], args := [d1, d2, d3] }
  | _ => none }
def IsaEndsWrongFalsely : Prop := isaEndsRow.holds Try.pinned (OpenSpec.ofChange isaEndsWrong)

/-- 'halberdlaw17.ObjsLoads': WHATEVER THE INPUT: true; the input reads as it did. -/
def objsLoadsSpec : ChangeSpec := { name := "objsLoads", fn := fun _ => fun
  | [d1, d2, d3, d4, d5] => { results := [.lit (.bool true)], args := [d1, d2, d3, d4, d5] }
  | _ => none }
def objsLoadsRow : OpenClaim := { program := "ytkbngkhajkhfgaa", sum := "33143d218f50a77356927b7bf3939ab8da0dc05221218f393349f3363652bdf8", func := "halberd/halberdlaw17.ObjsLoads", spec := "objsLoads", unfollowed := true, recurses := true, apart := false }
def ObjsLoadsSaid : Prop := objsLoadsRow.holds Try.pinned (OpenSpec.ofChange objsLoadsSpec)

/-- ITS FALSE NEIGHBOUR: 'it returns false'. Refute it at one input. -/
def objsLoadsWrong : ChangeSpec := { name := "objsLoads", fn := fun _ => fun
  | [d1, d2, d3, d4, d5] => { results := [.lit (.bool false)], args := [d1, d2, d3, d4, d5] }
  | _ => none }
def ObjsLoadsWrongFalsely : Prop := objsLoadsRow.holds Try.pinned (OpenSpec.ofChange objsLoadsWrong)

/-- 'halberdlaw17.ObjsRight': WHATEVER THE INPUT: true; the input reads as it did. -/
def objsRightSpec : ChangeSpec := { name := "objsRight", fn := fun _ => fun
  | [d1, d2] => { results := [.lit (.bool true)], args := [d1, d2] }
  | _ => none }
def objsRightRow : OpenClaim := { program := "ytkbngkhajkhfgaa", sum := "33143d218f50a77356927b7bf3939ab8da0dc05221218f393349f3363652bdf8", func := "halberd/halberdlaw17.ObjsRight", spec := "objsRight", unfollowed := true, recurses := true, apart := false }
def ObjsRightSaid : Prop := objsRightRow.holds Try.pinned (OpenSpec.ofChange objsRightSpec)

/-- ITS FALSE NEIGHBOUR: 'it returns false'. Refute it at one input. -/
def objsRightWrong : ChangeSpec := { name := "objsRight", fn := fun _ => fun
  | [d1, d2] => { results := [.lit (.bool false)], args := [d1, d2] }
  | _ => none }
def ObjsRightWrongFalsely : Prop := objsRightRow.holds Try.pinned (OpenSpec.ofChange objsRightWrong)

/-- 'halberdlaw17.ObjsMakes': WHATEVER THE INPUT: true; the input reads as it did. -/
def objsMakesSpec : ChangeSpec := { name := "objsMakes", fn := fun _ => fun
  | [d1, d2, d3] => { results := [.lit (.bool true)], args := [d1, d2, d3] }
  | _ => none }
def objsMakesRow : OpenClaim := { program := "ytkbngkhajkhfgaa", sum := "33143d218f50a77356927b7bf3939ab8da0dc05221218f393349f3363652bdf8", func := "halberd/halberdlaw17.ObjsMakes", spec := "objsMakes", unfollowed := true, recurses := true, apart := false }
def ObjsMakesSaid : Prop := objsMakesRow.holds Try.pinned (OpenSpec.ofChange objsMakesSpec)

/-- ITS FALSE NEIGHBOUR: 'it returns false'. Refute it at one input. -/
def objsMakesWrong : ChangeSpec := { name := "objsMakes", fn := fun _ => fun
  | [d1, d2, d3] => { results := [.lit (.bool false)], args := [d1, d2, d3] }
  | _ => none }
def ObjsMakesWrongFalsely : Prop := objsMakesRow.holds Try.pinned (OpenSpec.ofChange objsMakesWrong)

/- THE SECOND FORM. 'bulk': how many values and letters a reading holds, each counted each time it is reached (what is shared counts as often as it is met; a slice's spare places count too). A statement '..UptoSaid' is the law's where the arguments, and the package variables that the reading takes, are together of bulk at most 1048576: NARROWER than '..Said'. Prove '..Said' where nothing that the law and all that it calls make is longer than what came in: it says more and counts as full. Else prove '..UptoSaid'. A law counts once. -/
mutual
def uptoBulk {H : Type} : DataW H → Nat
  | .lit (.string bytes) => bytes.length + 1
  | .lit _ => 1
  | .nil => 1
  | .ptr d => uptoBulk d + 1
  | .slice elems spare => uptoBulkAll elems + uptoBulkAll spare + 1
  | .agg parts => uptoBulkAll parts + 1
  | .iface _ d => uptoBulk d + 1
  | .map entries => uptoBulkEntries entries + 1
  | .held _ => 1
def uptoBulkAll {H : Type} : List (DataW H) → Nat
  | [] => 0
  | d :: r => uptoBulk d + uptoBulkAll r
def uptoBulkEntries {H : Type} : List (Lit × DataW H) → Nat
  | [] => 0
  | x :: r => uptoBulkEntry x + uptoBulkEntries r
def uptoBulkEntry {H : Type} : Lit × DataW H → Nat
  | (.string bytes, d) => bytes.length + uptoBulk d + 1
  | (_, d) => uptoBulk d + 1
 end
def uptoSmall : (H : Type) → List (DataW H) → Bool := fun _ ds => decide (uptoBulkAll ds ≤ 1048576)
def OpenSpec.upto (s : _root_.Go.ChangeSpec) : _root_.Go.OpenSpec := { _root_.Go.OpenSpec.ofChange s with cond := some uptoSmall }

/-- 'halberdlaw03.IsaRight', WHERE WHAT IT READS IS OF BULK AT MOST 1048576: true; the input reads as it did. -/
def isaRightUptoRow : OpenClaim := { program := "ytkbngkhajkhfgaa", sum := "33143d218f50a77356927b7bf3939ab8da0dc05221218f393349f3363652bdf8", func := "halberd/halberdlaw03.IsaRight", spec := "isaRight", unfollowed := true, recurses := true, apart := false, narrowed := true }
def IsaRightUptoSaid : Prop := isaRightUptoRow.holds Try.pinned (OpenSpec.upto isaRightSpec)

/-- 'halberdlaw03.IsaChecks', WHERE WHAT IT READS IS OF BULK AT MOST 1048576: true; the input reads as it did. -/
def isaChecksUptoRow : OpenClaim := { program := "ytkbngkhajkhfgaa", sum := "33143d218f50a77356927b7bf3939ab8da0dc05221218f393349f3363652bdf8", func := "halberd/halberdlaw03.IsaChecks", spec := "isaChecks", unfollowed := true, recurses := true, apart := false, narrowed := true }
def IsaChecksUptoSaid : Prop := isaChecksUptoRow.holds Try.pinned (OpenSpec.upto isaChecksSpec)

/-- 'halberdlaw03.IsaEnds', WHERE WHAT IT READS IS OF BULK AT MOST 1048576: true; the input reads as it did. -/
def isaEndsUptoRow : OpenClaim := { program := "ytkbngkhajkhfgaa", sum := "33143d218f50a77356927b7bf3939ab8da0dc05221218f393349f3363652bdf8", func := "halberd/halberdlaw03.IsaEnds", spec := "isaEnds", unfollowed := true, recurses := true, apart := false, narrowed := true }
def IsaEndsUptoSaid : Prop := isaEndsUptoRow.holds Try.pinned (OpenSpec.upto isaEndsSpec)

/-- 'halberdlaw17.ObjsLoads', WHERE WHAT IT READS IS OF BULK AT MOST 1048576: true; the input reads as it did. -/
def objsLoadsUptoRow : OpenClaim := { program := "ytkbngkhajkhfgaa", sum := "33143d218f50a77356927b7bf3939ab8da0dc05221218f393349f3363652bdf8", func := "halberd/halberdlaw17.ObjsLoads", spec := "objsLoads", unfollowed := true, recurses := true, apart := false, narrowed := true }
def ObjsLoadsUptoSaid : Prop := objsLoadsUptoRow.holds Try.pinned (OpenSpec.upto objsLoadsSpec)

/-- 'halberdlaw17.ObjsRight', WHERE WHAT IT READS IS OF BULK AT MOST 1048576: true; the input reads as it did. -/
def objsRightUptoRow : OpenClaim := { program := "ytkbngkhajkhfgaa", sum := "33143d218f50a77356927b7bf3939ab8da0dc05221218f393349f3363652bdf8", func := "halberd/halberdlaw17.ObjsRight", spec := "objsRight", unfollowed := true, recurses := true, apart := false, narrowed := true }
def ObjsRightUptoSaid : Prop := objsRightUptoRow.holds Try.pinned (OpenSpec.upto objsRightSpec)

/-- 'halberdlaw17.ObjsMakes', WHERE WHAT IT READS IS OF BULK AT MOST 1048576: true; the input reads as it did. -/
def objsMakesUptoRow : OpenClaim := { program := "ytkbngkhajkhfgaa", sum := "33143d218f50a77356927b7bf3939ab8da0dc05221218f393349f3363652bdf8", func := "halberd/halberdlaw17.ObjsMakes", spec := "objsMakes", unfollowed := true, recurses := true, apart := false, narrowed := true }
def ObjsMakesUptoSaid : Prop := objsMakesUptoRow.holds Try.pinned (OpenSpec.upto objsMakesSpec)

end Rows
end Go.Proofs.Ytkbngkhajkhfgaa
