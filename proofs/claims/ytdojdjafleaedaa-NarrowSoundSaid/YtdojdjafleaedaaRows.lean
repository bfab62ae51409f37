/-
  No cell of these rows narrows 'for every input' (looked for: loops, veiled, ifaces, maps, wideKeys, modest, calm, conditions, laid).
  DERIVED. THE GIVEN ROWS OF THIS SEAT. 10 by the template 'for every input the law returns true; each argument reads behind the call as it read before'; 0 by the template 'total and deterministic' (their statements: YtdojdjafleaedaaTotals.lean).
  GIVEN WITH THE SEED: the statements are not yours to turn. If you find one false, say at which input.
  Laid BY PROGRAM, IN A SANDBOX (cutbox-rows.mjs): the forced cells as the released guide's own fill.sh prints them over the translation dc566a7bbcf3dd1b… (all of the seat's roots in one cut). By AI agents, Wed Nov 11 2026. No macro, syntax, notation, axiom, sorry.
-/
import Derived.Test.YtdojdjafleaedaaChecked
import GoSem.Claim
import GoSem.ClaimJoined
import GoSem.ClaimMapViews
import Derived.JoinedTies
import Derived.KernelRfl
namespace Go.Proofs.Ytdojdjafleaedaa
/- THE CELL 'sum', in the pinned program and in every row, IS THE sha256 OF THE DUMP (.gsa) THAT YtdojdjafleaedaaProg.lean LOADS. Nothing in Lean hashes anything: it is a label: what it is worth is what the hold of that sum in a sandbox is worth. -/
noncomputable def Try.pinned : Pinned := { name := "ytdojdjafleaedaa", sum := "dc566a7bbcf3dd1bfc3e5707ef62b746a1201675effedf55c5153ed043b02b15", checked := Try.checked }
namespace Rows
def none {H : Type} : Left H := { results := [], args := [] }

/-- 'halberdlaw04.AluDoes': WHATEVER THE INPUT: true; the input reads as it did. -/
def aluDoesSpec : ChangeSpec := { name := "aluDoes", fn := fun _ => fun
  | [d1, d2, d3, d4] => { results := [.lit (.bool true)], args := [d1, d2, d3, d4] }
  | _ => none }
def aluDoesRow : OpenClaim := { program := "ytdojdjafleaedaa", sum := "dc566a7bbcf3dd1bfc3e5707ef62b746a1201675effedf55c5153ed043b02b15", func := "halberd/halberdlaw04.AluDoes", spec := "aluDoes", unfollowed := true, recurses := true, apart := false }
def AluDoesSaid : Prop := aluDoesRow.holds Try.pinned (OpenSpec.ofChange aluDoesSpec)

/-- ITS FALSE NEIGHBOUR: 'it returns false'. Refute it at one input. -/
def aluDoesWrong : ChangeSpec := { name := "aluDoes", fn := fun _ => fun
  | [d1, d2, d3, d4] => { results := [.lit (.bool false)], args := [d1, d2, d3, d4] }
  | _ => none }
def AluDoesWrongFalsely : Prop := aluDoesRow.holds Try.pinned (OpenSpec.ofChange aluDoesWrong)

/-- 'halberdlaw04.AluHolds': WHATEVER THE INPUT: true; the input reads as it did. -/
def aluHoldsSpec : ChangeSpec := { name := "aluHolds", fn := fun _ => fun
  | [d1, d2, d3, d4] => { results := [.lit (.bool true)], args := [d1, d2, d3, d4] }
  | _ => none }
def aluHoldsRow : OpenClaim := { program := "ytdojdjafleaedaa", sum := "dc566a7bbcf3dd1bfc3e5707ef62b746a1201675effedf55c5153ed043b02b15", func := "halberd/halberdlaw04.AluHolds", spec := "aluHolds", unfollowed := true, recurses := true, apart := false }
def AluHoldsSaid : Prop := aluHoldsRow.holds Try.pinned (OpenSpec.ofChange aluHoldsSpec)

/-- ITS FALSE NEIGHBOUR: 'it returns false'. Refute it at one input. -/
def aluHoldsWrong : ChangeSpec := { name := "aluHolds", fn := fun _ => fun
  | [d1, d2, d3, d4] => { results := [.lit (.bool false)], args := [d1, d2, d3, d4] }
  | _ => none }
def AluHoldsWrongFalsely : Prop := aluHoldsRow.holds Try.pinned (OpenSpec.ofChange aluHoldsWrong)

/-- 'halberdlaw04.AluNarrow': WHATEVER THE INPUT: true; the input reads as it did. -/
def aluNarrowSpec : ChangeSpec := { name := "aluNarrow", fn := fun _ => fun
  | [d1, d2, d3, d4, d5] => { results := [.lit (.bool true)], args := [d1, d2, d3, d4, d5] }
  | _ => none }
def aluNarrowRow : OpenClaim := { program := "ytdojdjafleaedaa", sum := "dc566a7bbcf3dd1bfc3e5707ef62b746a1201675effedf55c5153ed043b02b15", func := "halberd/halberdlaw04.AluNarrow", spec := "aluNarrow", unfollowed := true, recurses := true, apart := false }
def AluNarrowSaid : Prop := aluNarrowRow.holds Try.pinned (OpenSpec.ofChange aluNarrowSpec)

/-- ITS FALSE NEIGHBOUR: 'it returns false'. Refute it at one input. -/
def aluNarrowWrong : ChangeSpec := { name := "aluNarrow", fn := fun _ => fun
  | [d1, d2, d3, d4, d5] => { results := [.lit (.bool false)], args := [d1, d2, d3, d4, d5] }
  | _ => none }
def AluNarrowWrongFalsely : Prop := aluNarrowRow.holds Try.pinned (OpenSpec.ofChange aluNarrowWrong)

/-- 'halberdlaw04.AluOpposites': WHATEVER THE INPUT: true; the input reads as it did. -/
def aluOppositesSpec : ChangeSpec := { name := "aluOpposites", fn := fun _ => fun
  | [d1, d2, d3] => { results := [.lit (.bool true)], args := [d1, d2, d3] }
  | _ => none }
def aluOppositesRow : OpenClaim := { program := "ytdojdjafleaedaa", sum := "dc566a7bbcf3dd1bfc3e5707ef62b746a1201675effedf55c5153ed043b02b15", func := "halberd/halberdlaw04.AluOpposites", spec := "aluOpposites", unfollowed := true, recurses := true, apart := false }
def AluOppositesSaid : Prop := aluOppositesRow.holds Try.pinned (OpenSpec.ofChange aluOppositesSpec)

/-- ITS FALSE NEIGHBOUR: 'it returns false'. Refute it at one input. -/
def aluOppositesWrong : ChangeSpec := { name := "aluOpposites", fn := fun _ => fun
  | [d1, d2, d3] => { results := [.lit (.bool false)], args := [d1, d2, d3] }
  | _ => none }
def AluOppositesWrongFalsely : Prop := aluOppositesRow.holds Try.pinned (OpenSpec.ofChange aluOppositesWrong)

/-- 'halberdlaw07.NumRefines': WHATEVER THE INPUT: true; the input reads as it did. -/
def numRefinesSpec : ChangeSpec := { name := "numRefines", fn := fun _ => fun
  | [d] => { results := [.lit (.bool true)], args := [d] }
  | _ => none }
def numRefinesRow : OpenClaim := { program := "ytdojdjafleaedaa", sum := "dc566a7bbcf3dd1bfc3e5707ef62b746a1201675effedf55c5153ed043b02b15", func := "halberd/halberdlaw07.NumRefines", spec := "numRefines", apart := false }
def NumRefinesSaid : Prop := numRefinesRow.holds Try.pinned (OpenSpec.ofChange numRefinesSpec)

/-- ITS FALSE NEIGHBOUR: 'it returns false'. Refute it at one input. -/
def numRefinesWrong : ChangeSpec := { name := "numRefines", fn := fun _ => fun
  | [d] => { results := [.lit (.bool false)], args := [d] }
  | _ => none }
def NumRefinesWrongFalsely : Prop := numRefinesRow.holds Try.pinned (OpenSpec.ofChange numRefinesWrong)

/-- 'halberdlaw07.NumSound': WHATEVER THE INPUT: true; the input reads as it did. -/
def numSoundSpec : ChangeSpec := { name := "numSound", fn := fun _ => fun
  | [d1, d2, d3, d4] => { results := [.lit (.bool true)], args := [d1, d2, d3, d4] }
  | _ => none }
def numSoundRow : OpenClaim := { program := "ytdojdjafleaedaa", sum := "dc566a7bbcf3dd1bfc3e5707ef62b746a1201675effedf55c5153ed043b02b15", func := "halberd/halberdlaw07.NumSound", spec := "numSound", apart := false }
def NumSoundSaid : Prop := numSoundRow.holds Try.pinned (OpenSpec.ofChange numSoundSpec)

/-- ITS FALSE NEIGHBOUR: 'it returns false'. Refute it at one input. -/
def numSoundWrong : ChangeSpec := { name := "numSound", fn := fun _ => fun
  | [d1, d2, d3, d4] => { results := [.lit (.bool false)], args := [d1, d2, d3, d4] }
  | _ => none }
def NumSoundWrongFalsely : Prop := numSoundRow.holds Try.pinned (OpenSpec.ofChange numSoundWrong)

/-- 'halberdlaw07.NumHas': WHATEVER THE INPUT: true; the input reads as it did. -/
def numHasSpec : ChangeSpec := { name := "numHas", fn := fun _ => fun
  | [d1, d2] => { results := [.lit (.bool true)], args := [d1, d2] }
  | _ => none }
def numHasRow : OpenClaim := { program := "ytdojdjafleaedaa", sum := "dc566a7bbcf3dd1bfc3e5707ef62b746a1201675effedf55c5153ed043b02b15", func := "halberd/halberdlaw07.NumHas", spec := "numHas", apart := false }
def NumHasSaid : Prop := numHasRow.holds Try.pinned (OpenSpec.ofChange numHasSpec)

/-- ITS FALSE NEIGHBOUR: 'it returns false'. Refute it at one input. -/
def numHasWrong : ChangeSpec := { name := "numHas", fn := fun _ => fun
  | [d1, d2] => { results := [.lit (.bool false)], args := [d1, d2] }
  | _ => none }
def NumHasWrongFalsely : Prop := numHasRow.holds Try.pinned (OpenSpec.ofChange numHasWrong)

/-- 'halberdlaw07.NumBounds': WHATEVER THE INPUT: true; the input reads as it did. -/
def numBoundsSpec : ChangeSpec := { name := "numBounds", fn := fun _ => fun
  | [d1, d2, d3, d4] => { results := [.lit (.bool true)], args := [d1, d2, d3, d4] }
  | _ => none }
def numBoundsRow : OpenClaim := { program := "ytdojdjafleaedaa", sum := "dc566a7bbcf3dd1bfc3e5707ef62b746a1201675effedf55c5153ed043b02b15", func := "halberd/halberdlaw07.NumBounds", spec := "numBounds", apart := false }
def NumBoundsSaid : Prop := numBoundsRow.holds Try.pinned (OpenSpec.ofChange numBoundsSpec)

/-- ITS FALSE NEIGHBOUR: 'it returns false'. Refute it at one input. -/
def numBoundsWrong : ChangeSpec := { name := "numBounds", fn := fun _ => fun
  | [d1, d2, d3, d4] => { results := [.lit (.bool false)], args := [d1, d2, d3, d4] }
  | _ => none }
def NumBoundsWrongFalsely : Prop := numBoundsRow.holds Try.pinned (OpenSpec.ofChange numBoundsWrong)

/-- 'halberdlaw09.NarrowWays': WHATEVER THE INPUT: true; the input reads as it did. -/
def narrowWaysSpec : ChangeSpec := { name := "narrowWays", fn := fun _ => fun
  | [d1, d2, d3, d4, d5] => { results := [.lit (.bool true)], args := [d1, d2, d3, d4, d5] }
  | _ => none }
def narrowWaysRow : OpenClaim := { program := "ytdojdjafleaedaa", sum := "dc566a7bbcf3dd1bfc3e5707ef62b746a1201675effedf55c5153ed043b02b15", func := "halberd/halberdlaw09.NarrowWays", spec := "narrowWays", unfollowed := true, recurses := true, apart := false }
def NarrowWaysSaid : Prop := narrowWaysRow.holds Try.pinned (OpenSpec.ofChange narrowWaysSpec)

/-- ITS FALSE NEIGHBOUR: 'it returns false'. Refute it at one input. -/
def narrowWaysWrong : ChangeSpec := { name := "narrowWays", fn := fun _ => fun
  | [d1, d2, d3, d4, d5] => { results := [.lit (.bool false)], args := [d1, d2, d3, d4, d5] }
  | _ => none }
def NarrowWaysWrongFalsely : Prop := narrowWaysRow.holds Try.pinned (OpenSpec.ofChange narrowWaysWrong)

/-- 'halberdlaw09.NarrowSound': WHATEVER THE INPUT: true; the input reads as it did. -/
def narrowSoundSpec : ChangeSpec := { name := "narrowSound", fn := fun _ => fun
  | [d1, d2, d3, d4, d5, d6] => { results := [.lit (.bool true)], args := [d1, d2, d3, d4, d5, d6] }
  | _ => none }
def narrowSoundRow : OpenClaim := { program := "ytdojdjafleaedaa", sum := "dc566a7bbcf3dd1bfc3e5707ef62b746a1201675effedf55c5153ed043b02b15", func := "halberd/halberdlaw09.NarrowSound", spec := "narrowSound", unfollowed := true, recurses := true, apart := false }
def NarrowSoundSaid : Prop := narrowSoundRow.holds Try.pinned (OpenSpec.ofChange narrowSoundSpec)

/-- ITS FALSE NEIGHBOUR: 'it returns false'. Refute it at one input. -/
def narrowSoundWrong : ChangeSpec := { name := "narrowSound", fn := fun _ => fun
  | [d1, d2, d3, d4, d5, d6] => { results := [.lit (.bool false)], args := [d1, d2, d3, d4, d5, d6] }
  | _ => none }
def NarrowSoundWrongFalsely : Prop := narrowSoundRow.holds Try.pinned (OpenSpec.ofChange narrowSoundWrong)

/- THE SECOND FORM. 'bulk': how many values and letters a reading holds, each counted each time it is reached (what is shared counts as often as it is met; a slice's spare places count too). A statement '..UptoSaid' is the law's where the arguments, and the package variables that the reading takes, are together of bulk at most 1048576: NARROWER than '..Said'. Prove '..Said' where nothing that the law and all that it calls make is longer than what came in: it says more and counts as full. Else prove '..UptoSaid'. A law counts once. -/
mutual
def uptoBulk {H : Type} : DataW H → Nat
  | .lit (.string bytes) => bytes.length + 1
  | .lit _ => 1
  | .nil => 1
  | .ptr d => uptoBulk d + 1
  | .slice elems spare => uptoBulkAll elems + uptoBulkAll spare + 1
  | .agg parts => uptoBulkAll parts + 1
  | .iface _ d => uptoBulk d + 1
  | .map entries => uptoBulkEntries entries + 1
  | .held _ => 1
def uptoBulkAll {H : Type} : List (DataW H) → Nat
  | [] => 0
  | d :: r => uptoBulk d + uptoBulkAll r
def uptoBulkEntries {H : Type} : List (Lit × DataW H) → Nat
  | [] => 0
  | x :: r => uptoBulkEntry x + uptoBulkEntries r
def uptoBulkEntry {H : Type} : Lit × DataW H → Nat
  | (.string bytes, d) => bytes.length + uptoBulk d + 1
  | (_, d) => uptoBulk d + 1
 end
def uptoSmall : (H : Type) → List (DataW H) → Bool := fun _ ds => decide (uptoBulkAll ds ≤ 1048576)
def OpenSpec.upto (s : _root_.Go.ChangeSpec) : _root_.Go.OpenSpec := { _root_.Go.OpenSpec.ofChange s with cond := some uptoSmall }

/-- 'halberdlaw04.AluDoes', WHERE WHAT IT READS IS OF BULK AT MOST 1048576: true; the input reads as it did. -/
def aluDoesUptoRow : OpenClaim := { program := "ytdojdjafleaedaa", sum := "dc566a7bbcf3dd1bfc3e5707ef62b746a1201675effedf55c5153ed043b02b15", func := "halberd/halberdlaw04.AluDoes", spec := "aluDoes", unfollowed := true, recurses := true, apart := false, narrowed := true }
def AluDoesUptoSaid : Prop := aluDoesUptoRow.holds Try.pinned (OpenSpec.upto aluDoesSpec)

/-- 'halberdlaw04.AluHolds', WHERE WHAT IT READS IS OF BULK AT MOST 1048576: true; the input reads as it did. -/
def aluHoldsUptoRow : OpenClaim := { program := "ytdojdjafleaedaa", sum := "dc566a7bbcf3dd1bfc3e5707ef62b746a1201675effedf55c5153ed043b02b15", func := "halberd/halberdlaw04.AluHolds", spec := "aluHolds", unfollowed := true, recurses := true, apart := false, narrowed := true }
def AluHoldsUptoSaid : Prop := aluHoldsUptoRow.holds Try.pinned (OpenSpec.upto aluHoldsSpec)

/-- 'halberdlaw04.AluNarrow', WHERE WHAT IT READS IS OF BULK AT MOST 1048576: true; the input reads as it did. -/
def aluNarrowUptoRow : OpenClaim := { program := "ytdojdjafleaedaa", sum := "dc566a7bbcf3dd1bfc3e5707ef62b746a1201675effedf55c5153ed043b02b15", func := "halberd/halberdlaw04.AluNarrow", spec := "aluNarrow", unfollowed := true, recurses := true, apart := false, narrowed := true }
def AluNarrowUptoSaid : Prop := aluNarrowUptoRow.holds Try.pinned (OpenSpec.upto aluNarrowSpec)

/-- 'halberdlaw04.AluOpposites', WHERE WHAT IT READS IS OF BULK AT MOST 1048576: true; the input reads as it did. -/
def aluOppositesUptoRow : OpenClaim := { program := "ytdojdjafleaedaa", sum := "dc566a7bbcf3dd1bfc3e5707ef62b746a1201675effedf55c5153ed043b02b15", func := "halberd/halberdlaw04.AluOpposites", spec := "aluOpposites", unfollowed := true, recurses := true, apart := false, narrowed := true }
def AluOppositesUptoSaid : Prop := aluOppositesUptoRow.holds Try.pinned (OpenSpec.upto aluOppositesSpec)

/-- 'halberdlaw07.NumRefines', WHERE WHAT IT READS IS OF BULK AT MOST 1048576: true; the input reads as it did. -/
def numRefinesUptoRow : OpenClaim := { program := "ytdojdjafleaedaa", sum := "dc566a7bbcf3dd1bfc3e5707ef62b746a1201675effedf55c5153ed043b02b15", func := "halberd/halberdlaw07.NumRefines", spec := "numRefines", apart := false, narrowed := true }
def NumRefinesUptoSaid : Prop := numRefinesUptoRow.holds Try.pinned (OpenSpec.upto numRefinesSpec)

/-- 'halberdlaw07.NumSound', WHERE WHAT IT READS IS OF BULK AT MOST 1048576: true; the input reads as it did. -/
def numSoundUptoRow : OpenClaim := { program := "ytdojdjafleaedaa", sum := "dc566a7bbcf3dd1bfc3e5707ef62b746a1201675effedf55c5153ed043b02b15", func := "halberd/halberdlaw07.NumSound", spec := "numSound", apart := false, narrowed := true }
def NumSoundUptoSaid : Prop := numSoundUptoRow.holds Try.pinned (OpenSpec.upto numSoundSpec)

/-- 'halberdlaw07.NumHas', WHERE WHAT IT READS IS OF BULK AT MOST 1048576: true; the input reads as it did. -/
def numHasUptoRow : OpenClaim := { program := "ytdojdjafleaedaa", sum := "dc566a7bbcf3dd1bfc3e5707ef62b746a1201675effedf55c5153ed043b02b15", func := "halberd/halberdlaw07.NumHas", spec := "numHas", apart := false, narrowed := true }
def NumHasUptoSaid : Prop := numHasUptoRow.holds Try.pinned (OpenSpec.upto numHasSpec)

/-- 'halberdlaw07.NumBounds', WHERE WHAT IT READS IS OF BULK AT MOST 1048576: true; the input reads as it did. -/
def numBoundsUptoRow : OpenClaim := { program := "ytdojdjafleaedaa", sum := "dc566a7bbcf3dd1bfc3e5707ef62b746a1201675effedf55c5153ed043b02b15", func := "halberd/halberdlaw07.NumBounds", spec := "numBounds", apart := false, narrowed := true }
def NumBoundsUptoSaid : Prop := numBoundsUptoRow.holds Try.pinned (OpenSpec.upto numBoundsSpec)

/-- 'halberdlaw09.NarrowWays', WHERE WHAT IT READS IS OF BULK AT MOST 1048576: true; the input reads as it did. -/
def narrowWaysUptoRow : OpenClaim := { program := "ytdojdjafleaedaa", sum := "dc566a7bbcf3dd1bfc3e5707ef62b746a1201675effedf55c5153ed043b02b15", func := "halberd/halberdlaw09.NarrowWays", spec := "narrowWays", unfollowed := true, recurses := true, apart := false, narrowed := true }
def NarrowWaysUptoSaid : Prop := narrowWaysUptoRow.holds Try.pinned (OpenSpec.upto narrowWaysSpec)

/-- 'halberdlaw09.NarrowSound', WHERE WHAT IT READS IS OF BULK AT MOST 1048576: true; the input reads as it did. -/
def narrowSoundUptoRow : OpenClaim := { program := "ytdojdjafleaedaa", sum := "dc566a7bbcf3dd1bfc3e5707ef62b746a1201675effedf55c5153ed043b02b15", func := "halberd/halberdlaw09.NarrowSound", spec := "narrowSound", unfollowed := true, recurses := true, apart := false, narrowed := true }
def NarrowSoundUptoSaid : Prop := narrowSoundUptoRow.holds Try.pinned (OpenSpec.upto narrowSoundSpec)

end Rows
end Go.Proofs.Ytdojdjafleaedaa
