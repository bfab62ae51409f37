/-
  No cell of these rows narrows 'for every input' (looked for: loops, veiled, ifaces, maps, wideKeys, modest, calm, conditions, laid).
  DERIVED. THE GIVEN ROWS OF THIS SEAT. 11 by the template 'for every input the law returns true; each argument reads behind the call as it read before'; 0 by the template 'total and deterministic' (their statements: YteckjmejngieeaaTotals.lean).
  GIVEN WITH THE SEED: the statements are not yours to turn. If you find one false, say at which input.
  Laid BY PROGRAM, IN A SANDBOX (cutbox-rows.mjs): the forced cells as the released guide's own fill.sh prints them over the translation 616269dd77d2497b… (all of the seat's roots in one cut). By AI agents, Wed Nov 11 2026. No macro, syntax, notation, axiom, sorry.
-/
import Derived.Test.YteckjmejngieeaaChecked
import GoSem.Claim
import GoSem.ClaimJoined
import GoSem.ClaimMapViews
import Derived.JoinedTies
import Derived.KernelRfl
namespace Go.Proofs.Yteckjmejngieeaa
/- THE CELL 'sum', in the pinned program and in every row, IS THE sha256 OF THE DUMP (.gsa) THAT YteckjmejngieeaaProg.lean LOADS. Nothing in Lean hashes anything: it is a label: what it is worth is what the hold of that sum in a sandbox is worth. -/
noncomputable def Try.pinned : Pinned := { name := "yteckjmejngieeaa", sum := "616269dd77d2497b6e7380fd4a49359cc5bab4128bcaca81b3a18212c3732020", checked := Try.checked }
namespace Rows
def none {H : Type} : Left H := { results := [], args := [] }

/-- 'halberdlaw10.ArrayPlays': WHATEVER THE INPUT: true; the input reads as it did. -/
def arrayPlaysSpec : ChangeSpec := { name := "arrayPlays", fn := fun _ => fun
  | [d1, d2, d3, d4] => { results := [.lit (.bool true)], args := [d1, d2, d3, d4] }
  | _ => none }
def arrayPlaysRow : OpenClaim := { program := "yteckjmejngieeaa", sum := "616269dd77d2497b6e7380fd4a49359cc5bab4128bcaca81b3a18212c3732020", func := "halberd/halberdlaw10.ArrayPlays", spec := "arrayPlays", apart := false }
def ArrayPlaysSaid : Prop := arrayPlaysRow.holds Try.pinned (OpenSpec.ofChange arrayPlaysSpec)

/-- ITS FALSE NEIGHBOUR: 'it returns false'. Refute it at one input. -/
def arrayPlaysWrong : ChangeSpec := { name := "arrayPlays", fn := fun _ => fun
  | [d1, d2, d3, d4] => { results := [.lit (.bool false)], args := [d1, d2, d3, d4] }
  | _ => none }
def ArrayPlaysWrongFalsely : Prop := arrayPlaysRow.holds Try.pinned (OpenSpec.ofChange arrayPlaysWrong)

/-- 'halberdlaw06.TnumMeets': WHATEVER THE INPUT: true; the input reads as it did. -/
def tnumMeetsSpec : ChangeSpec := { name := "tnumMeets", fn := fun _ => fun
  | [d1, d2, d3] => { results := [.lit (.bool true)], args := [d1, d2, d3] }
  | _ => none }
def tnumMeetsRow : OpenClaim := { program := "yteckjmejngieeaa", sum := "616269dd77d2497b6e7380fd4a49359cc5bab4128bcaca81b3a18212c3732020", func := "halberd/halberdlaw06.TnumMeets", spec := "tnumMeets", apart := false }
def TnumMeetsSaid : Prop := tnumMeetsRow.holds Try.pinned (OpenSpec.ofChange tnumMeetsSpec)

/-- ITS FALSE NEIGHBOUR: 'it returns false'. Refute it at one input. -/
def tnumMeetsWrong : ChangeSpec := { name := "tnumMeets", fn := fun _ => fun
  | [d1, d2, d3] => { results := [.lit (.bool false)], args := [d1, d2, d3] }
  | _ => none }
def TnumMeetsWrongFalsely : Prop := tnumMeetsRow.holds Try.pinned (OpenSpec.ofChange tnumMeetsWrong)

/-- 'halberdlaw06.TnumHas': WHATEVER THE INPUT: true; the input reads as it did. -/
def tnumHasSpec : ChangeSpec := { name := "tnumHas", fn := fun _ => fun
  | [d1, d2, d3] => { results := [.lit (.bool true)], args := [d1, d2, d3] }
  | _ => none }
def tnumHasRow : OpenClaim := { program := "yteckjmejngieeaa", sum := "616269dd77d2497b6e7380fd4a49359cc5bab4128bcaca81b3a18212c3732020", func := "halberd/halberdlaw06.TnumHas", spec := "tnumHas", apart := false }
def TnumHasSaid : Prop := tnumHasRow.holds Try.pinned (OpenSpec.ofChange tnumHasSpec)

/-- ITS FALSE NEIGHBOUR: 'it returns false'. Refute it at one input. -/
def tnumHasWrong : ChangeSpec := { name := "tnumHas", fn := fun _ => fun
  | [d1, d2, d3] => { results := [.lit (.bool false)], args := [d1, d2, d3] }
  | _ => none }
def TnumHasWrongFalsely : Prop := tnumHasRow.holds Try.pinned (OpenSpec.ofChange tnumHasWrong)

/-- 'halberdlaw15.HooksBy': WHATEVER THE INPUT: true; the input reads as it did. -/
def hooksBySpec : ChangeSpec := { name := "hooksBy", fn := fun _ => fun
  | [d] => { results := [.lit (.bool true)], args := [d] }
  | _ => none }
def hooksByRow : OpenClaim := { program := "yteckjmejngieeaa", sum := "616269dd77d2497b6e7380fd4a49359cc5bab4128bcaca81b3a18212c3732020", func := "halberd/halberdlaw15.HooksBy", spec := "hooksBy", unfollowed := true, recurses := true, apart := false }
def HooksBySaid : Prop := hooksByRow.holds Try.pinned (OpenSpec.ofChange hooksBySpec)

/-- ITS FALSE NEIGHBOUR: 'it returns false'. Refute it at one input. -/
def hooksByWrong : ChangeSpec := { name := "hooksBy", fn := fun _ => fun
  | [d] => { results := [.lit (.bool false)], args := [d] }
  | _ => none }
def HooksByWrongFalsely : Prop := hooksByRow.holds Try.pinned (OpenSpec.ofChange hooksByWrong)

/-- 'halberdlaw15.HooksFields': WHATEVER THE INPUT: true; the input reads as it did. -/
def hooksFieldsSpec : ChangeSpec := { name := "hooksFields", fn := fun _ => fun
  | [d1, d2] => { results := [.lit (.bool true)], args := [d1, d2] }
  | _ => none }
def hooksFieldsRow : OpenClaim := { program := "yteckjmejngieeaa", sum := "616269dd77d2497b6e7380fd4a49359cc5bab4128bcaca81b3a18212c3732020", func := "halberd/halberdlaw15.HooksFields", spec := "hooksFields", unfollowed := true, recurses := true, apart := false }
def HooksFieldsSaid : Prop := hooksFieldsRow.holds Try.pinned (OpenSpec.ofChange hooksFieldsSpec)

/-- ITS FALSE NEIGHBOUR: 'it returns false'. Refute it at one input. -/
def hooksFieldsWrong : ChangeSpec := { name := "hooksFields", fn := fun _ => fun
  | [d1, d2] => { results := [.lit (.bool false)], args := [d1, d2] }
  | _ => none }
def HooksFieldsWrongFalsely : Prop := hooksFieldsRow.holds Try.pinned (OpenSpec.ofChange hooksFieldsWrong)

/-- 'halberdlaw06.TnumTwo': WHATEVER THE INPUT: true; the input reads as it did. -/
def tnumTwoSpec : ChangeSpec := { name := "tnumTwo", fn := fun _ => fun
  | [d1, d2] => { results := [.lit (.bool true)], args := [d1, d2] }
  | _ => none }
def tnumTwoRow : OpenClaim := { program := "yteckjmejngieeaa", sum := "616269dd77d2497b6e7380fd4a49359cc5bab4128bcaca81b3a18212c3732020", func := "halberd/halberdlaw06.TnumTwo", spec := "tnumTwo", apart := false }
def TnumTwoSaid : Prop := tnumTwoRow.holds Try.pinned (OpenSpec.ofChange tnumTwoSpec)

/-- ITS FALSE NEIGHBOUR: 'it returns false'. Refute it at one input. -/
def tnumTwoWrong : ChangeSpec := { name := "tnumTwo", fn := fun _ => fun
  | [d1, d2] => { results := [.lit (.bool false)], args := [d1, d2] }
  | _ => none }
def TnumTwoWrongFalsely : Prop := tnumTwoRow.holds Try.pinned (OpenSpec.ofChange tnumTwoWrong)

/-- 'halberdlaw06.TnumShifts': WHATEVER THE INPUT: true; the input reads as it did. -/
def tnumShiftsSpec : ChangeSpec := { name := "tnumShifts", fn := fun _ => fun
  | [d1, d2, d3] => { results := [.lit (.bool true)], args := [d1, d2, d3] }
  | _ => none }
def tnumShiftsRow : OpenClaim := { program := "yteckjmejngieeaa", sum := "616269dd77d2497b6e7380fd4a49359cc5bab4128bcaca81b3a18212c3732020", func := "halberd/halberdlaw06.TnumShifts", spec := "tnumShifts", apart := false }
def TnumShiftsSaid : Prop := tnumShiftsRow.holds Try.pinned (OpenSpec.ofChange tnumShiftsSpec)

/-- ITS FALSE NEIGHBOUR: 'it returns false'. Refute it at one input. -/
def tnumShiftsWrong : ChangeSpec := { name := "tnumShifts", fn := fun _ => fun
  | [d1, d2, d3] => { results := [.lit (.bool false)], args := [d1, d2, d3] }
  | _ => none }
def TnumShiftsWrongFalsely : Prop := tnumShiftsRow.holds Try.pinned (OpenSpec.ofChange tnumShiftsWrong)

/-- 'halberdlaw15.HooksOf': WHATEVER THE INPUT: true; the input reads as it did. -/
def hooksOfSpec : ChangeSpec := { name := "hooksOf", fn := fun _ => fun
  | [d1, d2] => { results := [.lit (.bool true)], args := [d1, d2] }
  | _ => none }
def hooksOfRow : OpenClaim := { program := "yteckjmejngieeaa", sum := "616269dd77d2497b6e7380fd4a49359cc5bab4128bcaca81b3a18212c3732020", func := "halberd/halberdlaw15.HooksOf", spec := "hooksOf", unfollowed := true, recurses := true, apart := false }
def HooksOfSaid : Prop := hooksOfRow.holds Try.pinned (OpenSpec.ofChange hooksOfSpec)

/-- ITS FALSE NEIGHBOUR: 'it returns false'. Refute it at one input. -/
def hooksOfWrong : ChangeSpec := { name := "hooksOf", fn := fun _ => fun
  | [d1, d2] => { results := [.lit (.bool false)], args := [d1, d2] }
  | _ => none }
def HooksOfWrongFalsely : Prop := hooksOfRow.holds Try.pinned (OpenSpec.ofChange hooksOfWrong)

/-- 'halberdlaw15.HooksOwn': WHATEVER THE INPUT: true; the input reads as it did. -/
def hooksOwnSpec : ChangeSpec := { name := "hooksOwn", fn := fun _ => fun
  | [d1, d2, d3] => { results := [.lit (.bool true)], args := [d1, d2, d3] }
  | _ => none }
def hooksOwnRow : OpenClaim := { program := "yteckjmejngieeaa", sum := "616269dd77d2497b6e7380fd4a49359cc5bab4128bcaca81b3a18212c3732020", func := "halberd/halberdlaw15.HooksOwn", spec := "hooksOwn", unfollowed := true, recurses := true, apart := false }
def HooksOwnSaid : Prop := hooksOwnRow.holds Try.pinned (OpenSpec.ofChange hooksOwnSpec)

/-- ITS FALSE NEIGHBOUR: 'it returns false'. Refute it at one input. -/
def hooksOwnWrong : ChangeSpec := { name := "hooksOwn", fn := fun _ => fun
  | [d1, d2, d3] => { results := [.lit (.bool false)], args := [d1, d2, d3] }
  | _ => none }
def HooksOwnWrongFalsely : Prop := hooksOwnRow.holds Try.pinned (OpenSpec.ofChange hooksOwnWrong)

/-- 'halberdlaw30.CoversNums': WHATEVER THE INPUT: true; the input reads as it did. -/
def coversNumsSpec : ChangeSpec := { name := "coversNums", fn := fun _ => fun
  | [d1, d2, d3] => { results := [.lit (.bool true)], args := [d1, d2, d3] }
  | _ => none }
def coversNumsRow : OpenClaim := { program := "yteckjmejngieeaa", sum := "616269dd77d2497b6e7380fd4a49359cc5bab4128bcaca81b3a18212c3732020", func := "halberd/halberdlaw30.CoversNums", spec := "coversNums", apart := false }
def CoversNumsSaid : Prop := coversNumsRow.holds Try.pinned (OpenSpec.ofChange coversNumsSpec)

/-- ITS FALSE NEIGHBOUR: 'it returns false'. Refute it at one input. -/
def coversNumsWrong : ChangeSpec := { name := "coversNums", fn := fun _ => fun
  | [d1, d2, d3] => { results := [.lit (.bool false)], args := [d1, d2, d3] }
  | _ => none }
def CoversNumsWrongFalsely : Prop := coversNumsRow.holds Try.pinned (OpenSpec.ofChange coversNumsWrong)

/-- 'halberdlaw06.TnumSound': WHATEVER THE INPUT: true; the input reads as it did. -/
def tnumSoundSpec : ChangeSpec := { name := "tnumSound", fn := fun _ => fun
  | [d1, d2, d3, d4, d5] => { results := [.lit (.bool true)], args := [d1, d2, d3, d4, d5] }
  | _ => none }
def tnumSoundRow : OpenClaim := { program := "yteckjmejngieeaa", sum := "616269dd77d2497b6e7380fd4a49359cc5bab4128bcaca81b3a18212c3732020", func := "halberd/halberdlaw06.TnumSound", spec := "tnumSound", apart := false }
def TnumSoundSaid : Prop := tnumSoundRow.holds Try.pinned (OpenSpec.ofChange tnumSoundSpec)

/-- ITS FALSE NEIGHBOUR: 'it returns false'. Refute it at one input. -/
def tnumSoundWrong : ChangeSpec := { name := "tnumSound", fn := fun _ => fun
  | [d1, d2, d3, d4, d5] => { results := [.lit (.bool false)], args := [d1, d2, d3, d4, d5] }
  | _ => none }
def TnumSoundWrongFalsely : Prop := tnumSoundRow.holds Try.pinned (OpenSpec.ofChange tnumSoundWrong)

/- THE SECOND FORM. 'bulk': how many values and letters a reading holds, each counted each time it is reached (what is shared counts as often as it is met; a slice's spare places count too). A statement '..UptoSaid' is the law's where the arguments, and the package variables that the reading takes, are together of bulk at most 1048576: NARROWER than '..Said'. Prove '..Said' where nothing that the law and all that it calls make is longer than what came in: it says more and counts as full. Else prove '..UptoSaid'. A law counts once. -/
mutual
def uptoBulk {H : Type} : DataW H → Nat
  | .lit (.string bytes) => bytes.length + 1
  | .lit _ => 1
  | .nil => 1
  | .ptr d => uptoBulk d + 1
  | .slice elems spare => uptoBulkAll elems + uptoBulkAll spare + 1
  | .agg parts => uptoBulkAll parts + 1
  | .iface _ d => uptoBulk d + 1
  | .map entries => uptoBulkEntries entries + 1
  | .held _ => 1
def uptoBulkAll {H : Type} : List (DataW H) → Nat
  | [] => 0
  | d :: r => uptoBulk d + uptoBulkAll r
def uptoBulkEntries {H : Type} : List (Lit × DataW H) → Nat
  | [] => 0
  | x :: r => uptoBulkEntry x + uptoBulkEntries r
def uptoBulkEntry {H : Type} : Lit × DataW H → Nat
  | (.string bytes, d) => bytes.length + uptoBulk d + 1
  | (_, d) => uptoBulk d + 1
 end
def uptoSmall : (H : Type) → List (DataW H) → Bool := fun _ ds => decide (uptoBulkAll ds ≤ 1048576)
def OpenSpec.upto (s : _root_.Go.ChangeSpec) : _root_.Go.OpenSpec := { _root_.Go.OpenSpec.ofChange s with cond := some uptoSmall }

/-- 'halberdlaw10.ArrayPlays', WHERE WHAT IT READS IS OF BULK AT MOST 1048576: true; the input reads as it did. -/
def arrayPlaysUptoRow : OpenClaim := { program := "yteckjmejngieeaa", sum := "616269dd77d2497b6e7380fd4a49359cc5bab4128bcaca81b3a18212c3732020", func := "halberd/halberdlaw10.ArrayPlays", spec := "arrayPlays", apart := false, narrowed := true }
def ArrayPlaysUptoSaid : Prop := arrayPlaysUptoRow.holds Try.pinned (OpenSpec.upto arrayPlaysSpec)

/-- 'halberdlaw06.TnumMeets', WHERE WHAT IT READS IS OF BULK AT MOST 1048576: true; the input reads as it did. -/
def tnumMeetsUptoRow : OpenClaim := { program := "yteckjmejngieeaa", sum := "616269dd77d2497b6e7380fd4a49359cc5bab4128bcaca81b3a18212c3732020", func := "halberd/halberdlaw06.TnumMeets", spec := "tnumMeets", apart := false, narrowed := true }
def TnumMeetsUptoSaid : Prop := tnumMeetsUptoRow.holds Try.pinned (OpenSpec.upto tnumMeetsSpec)

/-- 'halberdlaw06.TnumHas', WHERE WHAT IT READS IS OF BULK AT MOST 1048576: true; the input reads as it did. -/
def tnumHasUptoRow : OpenClaim := { program := "yteckjmejngieeaa", sum := "616269dd77d2497b6e7380fd4a49359cc5bab4128bcaca81b3a18212c3732020", func := "halberd/halberdlaw06.TnumHas", spec := "tnumHas", apart := false, narrowed := true }
def TnumHasUptoSaid : Prop := tnumHasUptoRow.holds Try.pinned (OpenSpec.upto tnumHasSpec)

/-- 'halberdlaw15.HooksBy', WHERE WHAT IT READS IS OF BULK AT MOST 1048576: true; the input reads as it did. -/
def hooksByUptoRow : OpenClaim := { program := "yteckjmejngieeaa", sum := "616269dd77d2497b6e7380fd4a49359cc5bab4128bcaca81b3a18212c3732020", func := "halberd/halberdlaw15.HooksBy", spec := "hooksBy", unfollowed := true, recurses := true, apart := false, narrowed := true }
def HooksByUptoSaid : Prop := hooksByUptoRow.holds Try.pinned (OpenSpec.upto hooksBySpec)

/-- 'halberdlaw15.HooksFields', WHERE WHAT IT READS IS OF BULK AT MOST 1048576: true; the input reads as it did. -/
def hooksFieldsUptoRow : OpenClaim := { program := "yteckjmejngieeaa", sum := "616269dd77d2497b6e7380fd4a49359cc5bab4128bcaca81b3a18212c3732020", func := "halberd/halberdlaw15.HooksFields", spec := "hooksFields", unfollowed := true, recurses := true, apart := false, narrowed := true }
def HooksFieldsUptoSaid : Prop := hooksFieldsUptoRow.holds Try.pinned (OpenSpec.upto hooksFieldsSpec)

/-- 'halberdlaw06.TnumTwo', WHERE WHAT IT READS IS OF BULK AT MOST 1048576: true; the input reads as it did. -/
def tnumTwoUptoRow : OpenClaim := { program := "yteckjmejngieeaa", sum := "616269dd77d2497b6e7380fd4a49359cc5bab4128bcaca81b3a18212c3732020", func := "halberd/halberdlaw06.TnumTwo", spec := "tnumTwo", apart := false, narrowed := true }
def TnumTwoUptoSaid : Prop := tnumTwoUptoRow.holds Try.pinned (OpenSpec.upto tnumTwoSpec)

/-- 'halberdlaw06.TnumShifts', WHERE WHAT IT READS IS OF BULK AT MOST 1048576: true; the input reads as it did. -/
def tnumShiftsUptoRow : OpenClaim := { program := "yteckjmejngieeaa", sum := "616269dd77d2497b6e7380fd4a49359cc5bab4128bcaca81b3a18212c3732020", func := "halberd/halberdlaw06.TnumShifts", spec := "tnumShifts", apart := false, narrowed := true }
def TnumShiftsUptoSaid : Prop := tnumShiftsUptoRow.holds Try.pinned (OpenSpec.upto tnumShiftsSpec)

/-- 'halberdlaw15.HooksOf', WHERE WHAT IT READS IS OF BULK AT MOST 1048576: true; the input reads as it did. -/
def hooksOfUptoRow : OpenClaim := { program := "yteckjmejngieeaa", sum := "616269dd77d2497b6e7380fd4a49359cc5bab4128bcaca81b3a18212c3732020", func := "halberd/halberdlaw15.HooksOf", spec := "hooksOf", unfollowed := true, recurses := true, apart := false, narrowed := true }
def HooksOfUptoSaid : Prop := hooksOfUptoRow.holds Try.pinned (OpenSpec.upto hooksOfSpec)

/-- 'halberdlaw15.HooksOwn', WHERE WHAT IT READS IS OF BULK AT MOST 1048576: true; the input reads as it did. -/
def hooksOwnUptoRow : OpenClaim := { program := "yteckjmejngieeaa", sum := "616269dd77d2497b6e7380fd4a49359cc5bab4128bcaca81b3a18212c3732020", func := "halberd/halberdlaw15.HooksOwn", spec := "hooksOwn", unfollowed := true, recurses := true, apart := false, narrowed := true }
def HooksOwnUptoSaid : Prop := hooksOwnUptoRow.holds Try.pinned (OpenSpec.upto hooksOwnSpec)

/-- 'halberdlaw30.CoversNums', WHERE WHAT IT READS IS OF BULK AT MOST 1048576: true; the input reads as it did. -/
def coversNumsUptoRow : OpenClaim := { program := "yteckjmejngieeaa", sum := "616269dd77d2497b6e7380fd4a49359cc5bab4128bcaca81b3a18212c3732020", func := "halberd/halberdlaw30.CoversNums", spec := "coversNums", apart := false, narrowed := true }
def CoversNumsUptoSaid : Prop := coversNumsUptoRow.holds Try.pinned (OpenSpec.upto coversNumsSpec)

/-- 'halberdlaw06.TnumSound', WHERE WHAT IT READS IS OF BULK AT MOST 1048576: true; the input reads as it did. -/
def tnumSoundUptoRow : OpenClaim := { program := "yteckjmejngieeaa", sum := "616269dd77d2497b6e7380fd4a49359cc5bab4128bcaca81b3a18212c3732020", func := "halberd/halberdlaw06.TnumSound", spec := "tnumSound", apart := false, narrowed := true }
def TnumSoundUptoSaid : Prop := tnumSoundUptoRow.holds Try.pinned (OpenSpec.upto tnumSoundSpec)

end Rows
end Go.Proofs.Yteckjmejngieeaa
