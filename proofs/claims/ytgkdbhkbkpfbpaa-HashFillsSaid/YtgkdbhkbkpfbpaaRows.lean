/-
  No cell of these rows narrows 'for every input' (looked for: loops, veiled, ifaces, maps, wideKeys, modest, calm, conditions, laid).
  DERIVED. THE GIVEN ROWS OF THIS SEAT. 10 by the template 'for every input the law returns true; each argument reads behind the call as it read before'; 0 by the template 'total and deterministic' (their statements: YtgkdbhkbkpfbpaaTotals.lean).
  GIVEN WITH THE SEED: the statements are not yours to turn. If you find one false, say at which input.
  Laid BY PROGRAM, IN A SANDBOX (cutbox-rows.mjs): the forced cells as the released guide's own fill.sh prints them over the translation 138b3e11595f64b3… (all of the seat's roots in one cut). By AI agents, Wed Nov 11 2026. No macro, syntax, notation, axiom, sorry.
-/
import Derived.Test.YtgkdbhkbkpfbpaaChecked
import GoSem.Claim
import GoSem.ClaimJoined
import GoSem.ClaimMapViews
import Derived.JoinedTies
import Derived.KernelRfl
namespace Go.Proofs.Ytgkdbhkbkpfbpaa
/- THE CELL 'sum', in the pinned program and in every row, IS THE sha256 OF THE DUMP (.gsa) THAT YtgkdbhkbkpfbpaaProg.lean LOADS. Nothing in Lean hashes anything: it is a label: what it is worth is what the hold of that sum in a sandbox is worth. -/
noncomputable def Try.pinned : Pinned := { name := "ytgkdbhkbkpfbpaa", sum := "138b3e11595f64b31084be775bbbb59effbde38e93e5dcc5382a5e96690c186b", checked := Try.checked }
namespace Rows
def none {H : Type} : Left H := { results := [], args := [] }

/-- 'halberdlaw10.ArrayPlays': WHATEVER THE INPUT: true; the input reads as it did. -/
def arrayPlaysSpec : ChangeSpec := { name := "arrayPlays", fn := fun _ => fun
  | [d1, d2, d3, d4] => { results := [.lit (.bool true)], args := [d1, d2, d3, d4] }
  | _ => none }
def arrayPlaysRow : OpenClaim := { program := "ytgkdbhkbkpfbpaa", sum := "138b3e11595f64b31084be775bbbb59effbde38e93e5dcc5382a5e96690c186b", func := "halberd/halberdlaw10.ArrayPlays", spec := "arrayPlays", apart := false }
def ArrayPlaysSaid : Prop := arrayPlaysRow.holds Try.pinned (OpenSpec.ofChange arrayPlaysSpec)

/-- ITS FALSE NEIGHBOUR: 'it returns false'. Refute it at one input. -/
def arrayPlaysWrong : ChangeSpec := { name := "arrayPlays", fn := fun _ => fun
  | [d1, d2, d3, d4] => { results := [.lit (.bool false)], args := [d1, d2, d3, d4] }
  | _ => none }
def ArrayPlaysWrongFalsely : Prop := arrayPlaysRow.holds Try.pinned (OpenSpec.ofChange arrayPlaysWrong)

/-- 'halberdlaw13.RingFills': WHATEVER THE INPUT: true; the input reads as it did. -/
def ringFillsSpec : ChangeSpec := { name := "ringFills", fn := fun _ => fun
  | [d1, d2, d3] => { results := [.lit (.bool true)], args := [d1, d2, d3] }
  | _ => none }
def ringFillsRow : OpenClaim := { program := "ytgkdbhkbkpfbpaa", sum := "138b3e11595f64b31084be775bbbb59effbde38e93e5dcc5382a5e96690c186b", func := "halberd/halberdlaw13.RingFills", spec := "ringFills", unfollowed := true, recurses := true, apart := false }
def RingFillsSaid : Prop := ringFillsRow.holds Try.pinned (OpenSpec.ofChange ringFillsSpec)

/-- ITS FALSE NEIGHBOUR: 'it returns false'. Refute it at one input. -/
def ringFillsWrong : ChangeSpec := { name := "ringFills", fn := fun _ => fun
  | [d1, d2, d3] => { results := [.lit (.bool false)], args := [d1, d2, d3] }
  | _ => none }
def RingFillsWrongFalsely : Prop := ringFillsRow.holds Try.pinned (OpenSpec.ofChange ringFillsWrong)

/-- 'halberdlaw13.RingTold': WHATEVER THE INPUT: true; the input reads as it did. -/
def ringToldSpec : ChangeSpec := { name := "ringTold", fn := fun _ => fun
  | [d1, d2] => { results := [.lit (.bool true)], args := [d1, d2] }
  | _ => none }
def ringToldRow : OpenClaim := { program := "ytgkdbhkbkpfbpaa", sum := "138b3e11595f64b31084be775bbbb59effbde38e93e5dcc5382a5e96690c186b", func := "halberd/halberdlaw13.RingTold", spec := "ringTold", unfollowed := true, recurses := true, apart := false }
def RingToldSaid : Prop := ringToldRow.holds Try.pinned (OpenSpec.ofChange ringToldSpec)

/-- ITS FALSE NEIGHBOUR: 'it returns false'. Refute it at one input. -/
def ringToldWrong : ChangeSpec := { name := "ringTold", fn := fun _ => fun
  | [d1, d2] => { results := [.lit (.bool false)], args := [d1, d2] }
  | _ => none }
def RingToldWrongFalsely : Prop := ringToldRow.holds Try.pinned (OpenSpec.ofChange ringToldWrong)

/-- 'halberdlaw12.LocalGens': WHATEVER THE INPUT: true; the input reads as it did. -/
def localGensSpec : ChangeSpec := { name := "localGens", fn := fun _ => fun
  | [d1, d2, d3] => { results := [.lit (.bool true)], args := [d1, d2, d3] }
  | _ => none }
def localGensRow : OpenClaim := { program := "ytgkdbhkbkpfbpaa", sum := "138b3e11595f64b31084be775bbbb59effbde38e93e5dcc5382a5e96690c186b", func := "halberd/halberdlaw12.LocalGens", spec := "localGens", unfollowed := true, recurses := true, apart := false }
def LocalGensSaid : Prop := localGensRow.holds Try.pinned (OpenSpec.ofChange localGensSpec)

/-- ITS FALSE NEIGHBOUR: 'it returns false'. Refute it at one input. -/
def localGensWrong : ChangeSpec := { name := "localGens", fn := fun _ => fun
  | [d1, d2, d3] => { results := [.lit (.bool false)], args := [d1, d2, d3] }
  | _ => none }
def LocalGensWrongFalsely : Prop := localGensRow.holds Try.pinned (OpenSpec.ofChange localGensWrong)

/-- 'halberdlaw12.LocalFills': WHATEVER THE INPUT: true; the input reads as it did. -/
def localFillsSpec : ChangeSpec := { name := "localFills", fn := fun _ => fun
  | [d1, d2] => { results := [.lit (.bool true)], args := [d1, d2] }
  | _ => none }
def localFillsRow : OpenClaim := { program := "ytgkdbhkbkpfbpaa", sum := "138b3e11595f64b31084be775bbbb59effbde38e93e5dcc5382a5e96690c186b", func := "halberd/halberdlaw12.LocalFills", spec := "localFills", unfollowed := true, recurses := true, apart := false }
def LocalFillsSaid : Prop := localFillsRow.holds Try.pinned (OpenSpec.ofChange localFillsSpec)

/-- ITS FALSE NEIGHBOUR: 'it returns false'. Refute it at one input. -/
def localFillsWrong : ChangeSpec := { name := "localFills", fn := fun _ => fun
  | [d1, d2] => { results := [.lit (.bool false)], args := [d1, d2] }
  | _ => none }
def LocalFillsWrongFalsely : Prop := localFillsRow.holds Try.pinned (OpenSpec.ofChange localFillsWrong)

/-- 'halberdlaw11.HashFills': WHATEVER THE INPUT: true; the input reads as it did. -/
def hashFillsSpec : ChangeSpec := { name := "hashFills", fn := fun _ => fun
  | [d1, d2] => { results := [.lit (.bool true)], args := [d1, d2] }
  | _ => none }
def hashFillsRow : OpenClaim := { program := "ytgkdbhkbkpfbpaa", sum := "138b3e11595f64b31084be775bbbb59effbde38e93e5dcc5382a5e96690c186b", func := "halberd/halberdlaw11.HashFills", spec := "hashFills", unfollowed := true, recurses := true, apart := false }
def HashFillsSaid : Prop := hashFillsRow.holds Try.pinned (OpenSpec.ofChange hashFillsSpec)

/-- ITS FALSE NEIGHBOUR: 'it returns false'. Refute it at one input. -/
def hashFillsWrong : ChangeSpec := { name := "hashFills", fn := fun _ => fun
  | [d1, d2] => { results := [.lit (.bool false)], args := [d1, d2] }
  | _ => none }
def HashFillsWrongFalsely : Prop := hashFillsRow.holds Try.pinned (OpenSpec.ofChange hashFillsWrong)

/-- 'halberdlaw13.RingPlays': WHATEVER THE INPUT: true; the input reads as it did. -/
def ringPlaysSpec : ChangeSpec := { name := "ringPlays", fn := fun _ => fun
  | [d1, d2, d3] => { results := [.lit (.bool true)], args := [d1, d2, d3] }
  | _ => none }
def ringPlaysRow : OpenClaim := { program := "ytgkdbhkbkpfbpaa", sum := "138b3e11595f64b31084be775bbbb59effbde38e93e5dcc5382a5e96690c186b", func := "halberd/halberdlaw13.RingPlays", spec := "ringPlays", unfollowed := true, recurses := true, apart := false }
def RingPlaysSaid : Prop := ringPlaysRow.holds Try.pinned (OpenSpec.ofChange ringPlaysSpec)

/-- ITS FALSE NEIGHBOUR: 'it returns false'. Refute it at one input. -/
def ringPlaysWrong : ChangeSpec := { name := "ringPlays", fn := fun _ => fun
  | [d1, d2, d3] => { results := [.lit (.bool false)], args := [d1, d2, d3] }
  | _ => none }
def RingPlaysWrongFalsely : Prop := ringPlaysRow.holds Try.pinned (OpenSpec.ofChange ringPlaysWrong)

/-- 'halberdlaw12.LocalPlays': WHATEVER THE INPUT: true; the input reads as it did. -/
def localPlaysSpec : ChangeSpec := { name := "localPlays", fn := fun _ => fun
  | [d1, d2, d3, d4] => { results := [.lit (.bool true)], args := [d1, d2, d3, d4] }
  | _ => none }
def localPlaysRow : OpenClaim := { program := "ytgkdbhkbkpfbpaa", sum := "138b3e11595f64b31084be775bbbb59effbde38e93e5dcc5382a5e96690c186b", func := "halberd/halberdlaw12.LocalPlays", spec := "localPlays", unfollowed := true, recurses := true, apart := false }
def LocalPlaysSaid : Prop := localPlaysRow.holds Try.pinned (OpenSpec.ofChange localPlaysSpec)

/-- ITS FALSE NEIGHBOUR: 'it returns false'. Refute it at one input. -/
def localPlaysWrong : ChangeSpec := { name := "localPlays", fn := fun _ => fun
  | [d1, d2, d3, d4] => { results := [.lit (.bool false)], args := [d1, d2, d3, d4] }
  | _ => none }
def LocalPlaysWrongFalsely : Prop := localPlaysRow.holds Try.pinned (OpenSpec.ofChange localPlaysWrong)

/-- 'halberdlaw14.OwnedApart': WHATEVER THE INPUT: true; the input reads as it did. -/
def ownedApartSpec : ChangeSpec := { name := "ownedApart", fn := fun _ => fun
  | [d1, d2, d3] => { results := [.lit (.bool true)], args := [d1, d2, d3] }
  | _ => none }
def ownedApartRow : OpenClaim := { program := "ytgkdbhkbkpfbpaa", sum := "138b3e11595f64b31084be775bbbb59effbde38e93e5dcc5382a5e96690c186b", func := "halberd/halberdlaw14.OwnedApart", spec := "ownedApart", unfollowed := true, recurses := true, apart := false }
def OwnedApartSaid : Prop := ownedApartRow.holds Try.pinned (OpenSpec.ofChange ownedApartSpec)

/-- ITS FALSE NEIGHBOUR: 'it returns false'. Refute it at one input. -/
def ownedApartWrong : ChangeSpec := { name := "ownedApart", fn := fun _ => fun
  | [d1, d2, d3] => { results := [.lit (.bool false)], args := [d1, d2, d3] }
  | _ => none }
def OwnedApartWrongFalsely : Prop := ownedApartRow.holds Try.pinned (OpenSpec.ofChange ownedApartWrong)

/-- 'halberdlaw11.HashPlays': WHATEVER THE INPUT: true; the input reads as it did. -/
def hashPlaysSpec : ChangeSpec := { name := "hashPlays", fn := fun _ => fun
  | [d1, d2, d3, d4, d5] => { results := [.lit (.bool true)], args := [d1, d2, d3, d4, d5] }
  | _ => none }
def hashPlaysRow : OpenClaim := { program := "ytgkdbhkbkpfbpaa", sum := "138b3e11595f64b31084be775bbbb59effbde38e93e5dcc5382a5e96690c186b", func := "halberd/halberdlaw11.HashPlays", spec := "hashPlays", inPlace := ["maps.clone"], unfollowed := true, recurses := true, apart := false }
def HashPlaysSaid : Prop := hashPlaysRow.holds Try.pinned (OpenSpec.ofChange hashPlaysSpec)

/-- ITS FALSE NEIGHBOUR: 'it returns false'. Refute it at one input. -/
def hashPlaysWrong : ChangeSpec := { name := "hashPlays", fn := fun _ => fun
  | [d1, d2, d3, d4, d5] => { results := [.lit (.bool false)], args := [d1, d2, d3, d4, d5] }
  | _ => none }
def HashPlaysWrongFalsely : Prop := hashPlaysRow.holds Try.pinned (OpenSpec.ofChange hashPlaysWrong)

/- THE SECOND FORM. 'bulk': how many values and letters a reading holds, each counted each time it is reached (what is shared counts as often as it is met; a slice's spare places count too). A statement '..UptoSaid' is the law's where the arguments, and the package variables that the reading takes, are together of bulk at most 1048576: NARROWER than '..Said'. Prove '..Said' where nothing that the law and all that it calls make is longer than what came in: it says more and counts as full. Else prove '..UptoSaid'. A law counts once. -/
mutual
def uptoBulk {H : Type} : DataW H → Nat
  | .lit (.string bytes) => bytes.length + 1
  | .lit _ => 1
  | .nil => 1
  | .ptr d => uptoBulk d + 1
  | .slice elems spare => uptoBulkAll elems + uptoBulkAll spare + 1
  | .agg parts => uptoBulkAll parts + 1
  | .iface _ d => uptoBulk d + 1
  | .map entries => uptoBulkEntries entries + 1
  | .held _ => 1
def uptoBulkAll {H : Type} : List (DataW H) → Nat
  | [] => 0
  | d :: r => uptoBulk d + uptoBulkAll r
def uptoBulkEntries {H : Type} : List (Lit × DataW H) → Nat
  | [] => 0
  | x :: r => uptoBulkEntry x + uptoBulkEntries r
def uptoBulkEntry {H : Type} : Lit × DataW H → Nat
  | (.string bytes, d) => bytes.length + uptoBulk d + 1
  | (_, d) => uptoBulk d + 1
 end
def uptoSmall : (H : Type) → List (DataW H) → Bool := fun _ ds => decide (uptoBulkAll ds ≤ 1048576)
def OpenSpec.upto (s : _root_.Go.ChangeSpec) : _root_.Go.OpenSpec := { _root_.Go.OpenSpec.ofChange s with cond := some uptoSmall }

/-- 'halberdlaw10.ArrayPlays', WHERE WHAT IT READS IS OF BULK AT MOST 1048576: true; the input reads as it did. -/
def arrayPlaysUptoRow : OpenClaim := { program := "ytgkdbhkbkpfbpaa", sum := "138b3e11595f64b31084be775bbbb59effbde38e93e5dcc5382a5e96690c186b", func := "halberd/halberdlaw10.ArrayPlays", spec := "arrayPlays", apart := false, narrowed := true }
def ArrayPlaysUptoSaid : Prop := arrayPlaysUptoRow.holds Try.pinned (OpenSpec.upto arrayPlaysSpec)

/-- 'halberdlaw13.RingFills', WHERE WHAT IT READS IS OF BULK AT MOST 1048576: true; the input reads as it did. -/
def ringFillsUptoRow : OpenClaim := { program := "ytgkdbhkbkpfbpaa", sum := "138b3e11595f64b31084be775bbbb59effbde38e93e5dcc5382a5e96690c186b", func := "halberd/halberdlaw13.RingFills", spec := "ringFills", unfollowed := true, recurses := true, apart := false, narrowed := true }
def RingFillsUptoSaid : Prop := ringFillsUptoRow.holds Try.pinned (OpenSpec.upto ringFillsSpec)

/-- 'halberdlaw13.RingTold', WHERE WHAT IT READS IS OF BULK AT MOST 1048576: true; the input reads as it did. -/
def ringToldUptoRow : OpenClaim := { program := "ytgkdbhkbkpfbpaa", sum := "138b3e11595f64b31084be775bbbb59effbde38e93e5dcc5382a5e96690c186b", func := "halberd/halberdlaw13.RingTold", spec := "ringTold", unfollowed := true, recurses := true, apart := false, narrowed := true }
def RingToldUptoSaid : Prop := ringToldUptoRow.holds Try.pinned (OpenSpec.upto ringToldSpec)

/-- 'halberdlaw12.LocalGens', WHERE WHAT IT READS IS OF BULK AT MOST 1048576: true; the input reads as it did. -/
def localGensUptoRow : OpenClaim := { program := "ytgkdbhkbkpfbpaa", sum := "138b3e11595f64b31084be775bbbb59effbde38e93e5dcc5382a5e96690c186b", func := "halberd/halberdlaw12.LocalGens", spec := "localGens", unfollowed := true, recurses := true, apart := false, narrowed := true }
def LocalGensUptoSaid : Prop := localGensUptoRow.holds Try.pinned (OpenSpec.upto localGensSpec)

/-- 'halberdlaw12.LocalFills', WHERE WHAT IT READS IS OF BULK AT MOST 1048576: true; the input reads as it did. -/
def localFillsUptoRow : OpenClaim := { program := "ytgkdbhkbkpfbpaa", sum := "138b3e11595f64b31084be775bbbb59effbde38e93e5dcc5382a5e96690c186b", func := "halberd/halberdlaw12.LocalFills", spec := "localFills", unfollowed := true, recurses := true, apart := false, narrowed := true }
def LocalFillsUptoSaid : Prop := localFillsUptoRow.holds Try.pinned (OpenSpec.upto localFillsSpec)

/-- 'halberdlaw11.HashFills', WHERE WHAT IT READS IS OF BULK AT MOST 1048576: true; the input reads as it did. -/
def hashFillsUptoRow : OpenClaim := { program := "ytgkdbhkbkpfbpaa", sum := "138b3e11595f64b31084be775bbbb59effbde38e93e5dcc5382a5e96690c186b", func := "halberd/halberdlaw11.HashFills", spec := "hashFills", unfollowed := true, recurses := true, apart := false, narrowed := true }
def HashFillsUptoSaid : Prop := hashFillsUptoRow.holds Try.pinned (OpenSpec.upto hashFillsSpec)

/-- 'halberdlaw13.RingPlays', WHERE WHAT IT READS IS OF BULK AT MOST 1048576: true; the input reads as it did. -/
def ringPlaysUptoRow : OpenClaim := { program := "ytgkdbhkbkpfbpaa", sum := "138b3e11595f64b31084be775bbbb59effbde38e93e5dcc5382a5e96690c186b", func := "halberd/halberdlaw13.RingPlays", spec := "ringPlays", unfollowed := true, recurses := true, apart := false, narrowed := true }
def RingPlaysUptoSaid : Prop := ringPlaysUptoRow.holds Try.pinned (OpenSpec.upto ringPlaysSpec)

/-- 'halberdlaw12.LocalPlays', WHERE WHAT IT READS IS OF BULK AT MOST 1048576: true; the input reads as it did. -/
def localPlaysUptoRow : OpenClaim := { program := "ytgkdbhkbkpfbpaa", sum := "138b3e11595f64b31084be775bbbb59effbde38e93e5dcc5382a5e96690c186b", func := "halberd/halberdlaw12.LocalPlays", spec := "localPlays", unfollowed := true, recurses := true, apart := false, narrowed := true }
def LocalPlaysUptoSaid : Prop := localPlaysUptoRow.holds Try.pinned (OpenSpec.upto localPlaysSpec)

/-- 'halberdlaw14.OwnedApart', WHERE WHAT IT READS IS OF BULK AT MOST 1048576: true; the input reads as it did. -/
def ownedApartUptoRow : OpenClaim := { program := "ytgkdbhkbkpfbpaa", sum := "138b3e11595f64b31084be775bbbb59effbde38e93e5dcc5382a5e96690c186b", func := "halberd/halberdlaw14.OwnedApart", spec := "ownedApart", unfollowed := true, recurses := true, apart := false, narrowed := true }
def OwnedApartUptoSaid : Prop := ownedApartUptoRow.holds Try.pinned (OpenSpec.upto ownedApartSpec)

/-- 'halberdlaw11.HashPlays', WHERE WHAT IT READS IS OF BULK AT MOST 1048576: true; the input reads as it did. -/
def hashPlaysUptoRow : OpenClaim := { program := "ytgkdbhkbkpfbpaa", sum := "138b3e11595f64b31084be775bbbb59effbde38e93e5dcc5382a5e96690c186b", func := "halberd/halberdlaw11.HashPlays", spec := "hashPlays", inPlace := ["maps.clone"], unfollowed := true, recurses := true, apart := false, narrowed := true }
def HashPlaysUptoSaid : Prop := hashPlaysUptoRow.holds Try.pinned (OpenSpec.upto hashPlaysSpec)

end Rows
end Go.Proofs.Ytgkdbhkbkpfbpaa
