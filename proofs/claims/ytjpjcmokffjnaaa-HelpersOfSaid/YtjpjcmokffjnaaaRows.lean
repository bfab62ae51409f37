/-
  No cell of these rows narrows 'for every input' (looked for: loops, veiled, ifaces, maps, wideKeys, modest, calm, conditions, laid).
  DERIVED. THE GIVEN ROWS OF THIS SEAT. 10 by the template 'for every input the law returns true; each argument reads behind the call as it read before'; 0 by the template 'total and deterministic' (their statements: YtjpjcmokffjnaaaTotals.lean).
  GIVEN WITH THE SEED: the statements are not yours to turn. If you find one false, say at which input.
  Laid BY PROGRAM, IN A SANDBOX (cutbox-rows.mjs): the forced cells as the released guide's own fill.sh prints them over the translation 559ca84c78171994… (all of the seat's roots in one cut). By AI agents, Wed Nov 11 2026. No macro, syntax, notation, axiom, sorry.
-/
import Derived.Test.YtjpjcmokffjnaaaChecked
import GoSem.Claim
import GoSem.ClaimJoined
import GoSem.ClaimMapViews
import Derived.JoinedTies
import Derived.KernelRfl
namespace Go.Proofs.Ytjpjcmokffjnaaa
/- THE CELL 'sum', in the pinned program and in every row, IS THE sha256 OF THE DUMP (.gsa) THAT YtjpjcmokffjnaaaProg.lean LOADS. Nothing in Lean hashes anything: it is a label: what it is worth is what the hold of that sum in a sandbox is worth. -/
noncomputable def Try.pinned : Pinned := { name := "ytjpjcmokffjnaaa", sum := "559ca84c78171994af54e5c1565dd017bd5f4a1a852eaaa79dee1fa99eee29fe", checked := Try.checked }
namespace Rows
def none {H : Type} : Left H := { results := [], args := [] }

/-- 'halberdlaw02.InstBytes': WHATEVER THE INPUT: true; the input reads as it did. -/
def instBytesSpec : ChangeSpec := { name := "instBytes", fn := fun _ => fun
  | [d] => { results := [.lit (.bool true)], args := [d] }
  | _ => none }
def instBytesRow : OpenClaim := { program := "ytjpjcmokffjnaaa", sum := "559ca84c78171994af54e5c1565dd017bd5f4a1a852eaaa79dee1fa99eee29fe", func := "halberd/halberdlaw02.InstBytes", spec := "instBytes", apart := false }
def InstBytesSaid : Prop := instBytesRow.holds Try.pinned (OpenSpec.ofChange instBytesSpec)

/-- ITS FALSE NEIGHBOUR: 'it returns false'. Refute it at one input. -/
def instBytesWrong : ChangeSpec := { name := "instBytes", fn := fun _ => fun
  | [d] => { results := [.lit (.bool false)], args := [d] }
  | _ => none }
def InstBytesWrongFalsely : Prop := instBytesRow.holds Try.pinned (OpenSpec.ofChange instBytesWrong)

/-- 'halberdlaw02.InstWide': WHATEVER THE INPUT: true; the input reads as it did. -/
def instWideSpec : ChangeSpec := { name := "instWide", fn := fun _ => fun
  | [d1, d2, d3, d4, d5, d6] => { results := [.lit (.bool true)], args := [d1, d2, d3, d4, d5, d6] }
  | _ => none }
def instWideRow : OpenClaim := { program := "ytjpjcmokffjnaaa", sum := "559ca84c78171994af54e5c1565dd017bd5f4a1a852eaaa79dee1fa99eee29fe", func := "halberd/halberdlaw02.InstWide", spec := "instWide", apart := false }
def InstWideSaid : Prop := instWideRow.holds Try.pinned (OpenSpec.ofChange instWideSpec)

/-- ITS FALSE NEIGHBOUR: 'it returns false'. Refute it at one input. -/
def instWideWrong : ChangeSpec := { name := "instWide", fn := fun _ => fun
  | [d1, d2, d3, d4, d5, d6] => { results := [.lit (.bool false)], args := [d1, d2, d3, d4, d5, d6] }
  | _ => none }
def InstWideWrongFalsely : Prop := instWideRow.holds Try.pinned (OpenSpec.ofChange instWideWrong)

/-- 'halberdlaw01.WordsCut': WHATEVER THE INPUT: true; the input reads as it did. -/
def wordsCutSpec : ChangeSpec := { name := "wordsCut", fn := fun _ => fun
  | [d1, d2] => { results := [.lit (.bool true)], args := [d1, d2] }
  | _ => none }
def wordsCutRow : OpenClaim := { program := "ytjpjcmokffjnaaa", sum := "559ca84c78171994af54e5c1565dd017bd5f4a1a852eaaa79dee1fa99eee29fe", func := "halberd/halberdlaw01.WordsCut", spec := "wordsCut", apart := false }
def WordsCutSaid : Prop := wordsCutRow.holds Try.pinned (OpenSpec.ofChange wordsCutSpec)

/-- ITS FALSE NEIGHBOUR: 'it returns false'. Refute it at one input. -/
def wordsCutWrong : ChangeSpec := { name := "wordsCut", fn := fun _ => fun
  | [d1, d2] => { results := [.lit (.bool false)], args := [d1, d2] }
  | _ => none }
def WordsCutWrongFalsely : Prop := wordsCutRow.holds Try.pinned (OpenSpec.ofChange wordsCutWrong)

/-- 'halberdlaw01.WordsSigns': WHATEVER THE INPUT: true; the input reads as it did. -/
def wordsSignsSpec : ChangeSpec := { name := "wordsSigns", fn := fun _ => fun
  | [d1, d2] => { results := [.lit (.bool true)], args := [d1, d2] }
  | _ => none }
def wordsSignsRow : OpenClaim := { program := "ytjpjcmokffjnaaa", sum := "559ca84c78171994af54e5c1565dd017bd5f4a1a852eaaa79dee1fa99eee29fe", func := "halberd/halberdlaw01.WordsSigns", spec := "wordsSigns", apart := false }
def WordsSignsSaid : Prop := wordsSignsRow.holds Try.pinned (OpenSpec.ofChange wordsSignsSpec)

/-- ITS FALSE NEIGHBOUR: 'it returns false'. Refute it at one input. -/
def wordsSignsWrong : ChangeSpec := { name := "wordsSigns", fn := fun _ => fun
  | [d1, d2] => { results := [.lit (.bool false)], args := [d1, d2] }
  | _ => none }
def WordsSignsWrongFalsely : Prop := wordsSignsRow.holds Try.pinned (OpenSpec.ofChange wordsSignsWrong)

/-- 'halberdlaw01.WordsBytes': WHATEVER THE INPUT: true; the input reads as it did. -/
def wordsBytesSpec : ChangeSpec := { name := "wordsBytes", fn := fun _ => fun
  | [d1, d2, d3, d4] => { results := [.lit (.bool true)], args := [d1, d2, d3, d4] }
  | _ => none }
def wordsBytesRow : OpenClaim := { program := "ytjpjcmokffjnaaa", sum := "559ca84c78171994af54e5c1565dd017bd5f4a1a852eaaa79dee1fa99eee29fe", func := "halberd/halberdlaw01.WordsBytes", spec := "wordsBytes", apart := false }
def WordsBytesSaid : Prop := wordsBytesRow.holds Try.pinned (OpenSpec.ofChange wordsBytesSpec)

/-- ITS FALSE NEIGHBOUR: 'it returns false'. Refute it at one input. -/
def wordsBytesWrong : ChangeSpec := { name := "wordsBytes", fn := fun _ => fun
  | [d1, d2, d3, d4] => { results := [.lit (.bool false)], args := [d1, d2, d3, d4] }
  | _ => none }
def WordsBytesWrongFalsely : Prop := wordsBytesRow.holds Try.pinned (OpenSpec.ofChange wordsBytesWrong)

/-- 'halberdlaw16.HelpersBy': WHATEVER THE INPUT: true; the input reads as it did. -/
def helpersBySpec : ChangeSpec := { name := "helpersBy", fn := fun _ => fun
  | [d] => { results := [.lit (.bool true)], args := [d] }
  | _ => none }
def helpersByRow : OpenClaim := { program := "ytjpjcmokffjnaaa", sum := "559ca84c78171994af54e5c1565dd017bd5f4a1a852eaaa79dee1fa99eee29fe", func := "halberd/halberdlaw16.HelpersBy", spec := "helpersBy", unfollowed := true, recurses := true, apart := false }
def HelpersBySaid : Prop := helpersByRow.holds Try.pinned (OpenSpec.ofChange helpersBySpec)

/-- ITS FALSE NEIGHBOUR: 'it returns false'. Refute it at one input. -/
def helpersByWrong : ChangeSpec := { name := "helpersBy", fn := fun _ => fun
  | [d] => { results := [.lit (.bool false)], args := [d] }
  | _ => none }
def HelpersByWrongFalsely : Prop := helpersByRow.holds Try.pinned (OpenSpec.ofChange helpersByWrong)

/-- 'halberdlaw16.HelpersOf': WHATEVER THE INPUT: true; the input reads as it did. -/
def helpersOfSpec : ChangeSpec := { name := "helpersOf", fn := fun _ => fun
  | [d1, d2] => { results := [.lit (.bool true)], args := [d1, d2] }
  | _ => none }
def helpersOfRow : OpenClaim := { program := "ytjpjcmokffjnaaa", sum := "559ca84c78171994af54e5c1565dd017bd5f4a1a852eaaa79dee1fa99eee29fe", func := "halberd/halberdlaw16.HelpersOf", spec := "helpersOf", unfollowed := true, recurses := true, apart := false }
def HelpersOfSaid : Prop := helpersOfRow.holds Try.pinned (OpenSpec.ofChange helpersOfSpec)

/-- ITS FALSE NEIGHBOUR: 'it returns false'. Refute it at one input. -/
def helpersOfWrong : ChangeSpec := { name := "helpersOf", fn := fun _ => fun
  | [d1, d2] => { results := [.lit (.bool false)], args := [d1, d2] }
  | _ => none }
def HelpersOfWrongFalsely : Prop := helpersOfRow.holds Try.pinned (OpenSpec.ofChange helpersOfWrong)

/-- 'halberdlaw16.HelpersOwn': WHATEVER THE INPUT: true; the input reads as it did. -/
def helpersOwnSpec : ChangeSpec := { name := "helpersOwn", fn := fun _ => fun
  | [d1, d2, d3] => { results := [.lit (.bool true)], args := [d1, d2, d3] }
  | _ => none }
def helpersOwnRow : OpenClaim := { program := "ytjpjcmokffjnaaa", sum := "559ca84c78171994af54e5c1565dd017bd5f4a1a852eaaa79dee1fa99eee29fe", func := "halberd/halberdlaw16.HelpersOwn", spec := "helpersOwn", unfollowed := true, recurses := true, apart := false }
def HelpersOwnSaid : Prop := helpersOwnRow.holds Try.pinned (OpenSpec.ofChange helpersOwnSpec)

/-- ITS FALSE NEIGHBOUR: 'it returns false'. Refute it at one input. -/
def helpersOwnWrong : ChangeSpec := { name := "helpersOwn", fn := fun _ => fun
  | [d1, d2, d3] => { results := [.lit (.bool false)], args := [d1, d2, d3] }
  | _ => none }
def HelpersOwnWrongFalsely : Prop := helpersOwnRow.holds Try.pinned (OpenSpec.ofChange helpersOwnWrong)

/-- 'halberdlaw02.InstReads': WHATEVER THE INPUT: true; the input reads as it did. -/
def instReadsSpec : ChangeSpec := { name := "instReads", fn := fun _ => fun
  | [d] => { results := [.lit (.bool true)], args := [d] }
  | _ => none }
def instReadsRow : OpenClaim := { program := "ytjpjcmokffjnaaa", sum := "559ca84c78171994af54e5c1565dd017bd5f4a1a852eaaa79dee1fa99eee29fe", func := "halberd/halberdlaw02.InstReads", spec := "instReads", unfollowed := true, recurses := true, apart := false }
def InstReadsSaid : Prop := instReadsRow.holds Try.pinned (OpenSpec.ofChange instReadsSpec)

/-- ITS FALSE NEIGHBOUR: 'it returns false'. Refute it at one input. -/
def instReadsWrong : ChangeSpec := { name := "instReads", fn := fun _ => fun
  | [d] => { results := [.lit (.bool false)], args := [d] }
  | _ => none }
def InstReadsWrongFalsely : Prop := instReadsRow.holds Try.pinned (OpenSpec.ofChange instReadsWrong)

/-- 'halberdlaw02.InstBack': WHATEVER THE INPUT: true; the input reads as it did. -/
def instBackSpec : ChangeSpec := { name := "instBack", fn := fun _ => fun
  | [d] => { results := [.lit (.bool true)], args := [d] }
  | _ => none }
def instBackRow : OpenClaim := { program := "ytjpjcmokffjnaaa", sum := "559ca84c78171994af54e5c1565dd017bd5f4a1a852eaaa79dee1fa99eee29fe", func := "halberd/halberdlaw02.InstBack", spec := "instBack", unfollowed := true, recurses := true, apart := false }
def InstBackSaid : Prop := instBackRow.holds Try.pinned (OpenSpec.ofChange instBackSpec)

/-- ITS FALSE NEIGHBOUR: 'it returns false'. Refute it at one input. -/
def instBackWrong : ChangeSpec := { name := "instBack", fn := fun _ => fun
  | [d] => { results := [.lit (.bool false)], args := [d] }
  | _ => none }
def InstBackWrongFalsely : Prop := instBackRow.holds Try.pinned (OpenSpec.ofChange instBackWrong)

/- THE SECOND FORM. 'bulk': how many values and letters a reading holds, each counted each time it is reached (what is shared counts as often as it is met; a slice's spare places count too). A statement '..UptoSaid' is the law's where the arguments, and the package variables that the reading takes, are together of bulk at most 1048576: NARROWER than '..Said'. Prove '..Said' where nothing that the law and all that it calls make is longer than what came in: it says more and counts as full. Else prove '..UptoSaid'. A law counts once. -/
mutual
def uptoBulk {H : Type} : DataW H → Nat
  | .lit (.string bytes) => bytes.length + 1
  | .lit _ => 1
  | .nil => 1
  | .ptr d => uptoBulk d + 1
  | .slice elems spare => uptoBulkAll elems + uptoBulkAll spare + 1
  | .agg parts => uptoBulkAll parts + 1
  | .iface _ d => uptoBulk d + 1
  | .map entries => uptoBulkEntries entries + 1
  | .held _ => 1
def uptoBulkAll {H : Type} : List (DataW H) → Nat
  | [] => 0
  | d :: r => uptoBulk d + uptoBulkAll r
def uptoBulkEntries {H : Type} : List (Lit × DataW H) → Nat
  | [] => 0
  | x :: r => uptoBulkEntry x + uptoBulkEntries r
def uptoBulkEntry {H : Type} : Lit × DataW H → Nat
  | (.string bytes, d) => bytes.length + uptoBulk d + 1
  | (_, d) => uptoBulk d + 1
 end
def uptoSmall : (H : Type) → List (DataW H) → Bool := fun _ ds => decide (uptoBulkAll ds ≤ 1048576)
def OpenSpec.upto (s : _root_.Go.ChangeSpec) : _root_.Go.OpenSpec := { _root_.Go.OpenSpec.ofChange s with cond := some uptoSmall }

/-- 'halberdlaw02.InstBytes', WHERE WHAT IT READS IS OF BULK AT MOST 1048576: true; the input reads as it did. -/
def instBytesUptoRow : OpenClaim := { program := "ytjpjcmokffjnaaa", sum := "559ca84c78171994af54e5c1565dd017bd5f4a1a852eaaa79dee1fa99eee29fe", func := "halberd/halberdlaw02.InstBytes", spec := "instBytes", apart := false, narrowed := true }
def InstBytesUptoSaid : Prop := instBytesUptoRow.holds Try.pinned (OpenSpec.upto instBytesSpec)

/-- 'halberdlaw02.InstWide', WHERE WHAT IT READS IS OF BULK AT MOST 1048576: true; the input reads as it did. -/
def instWideUptoRow : OpenClaim := { program := "ytjpjcmokffjnaaa", sum := "559ca84c78171994af54e5c1565dd017bd5f4a1a852eaaa79dee1fa99eee29fe", func := "halberd/halberdlaw02.InstWide", spec := "instWide", apart := false, narrowed := true }
def InstWideUptoSaid : Prop := instWideUptoRow.holds Try.pinned (OpenSpec.upto instWideSpec)

/-- 'halberdlaw01.WordsCut', WHERE WHAT IT READS IS OF BULK AT MOST 1048576: true; the input reads as it did. -/
def wordsCutUptoRow : OpenClaim := { program := "ytjpjcmokffjnaaa", sum := "559ca84c78171994af54e5c1565dd017bd5f4a1a852eaaa79dee1fa99eee29fe", func := "halberd/halberdlaw01.WordsCut", spec := "wordsCut", apart := false, narrowed := true }
def WordsCutUptoSaid : Prop := wordsCutUptoRow.holds Try.pinned (OpenSpec.upto wordsCutSpec)

/-- 'halberdlaw01.WordsSigns', WHERE WHAT IT READS IS OF BULK AT MOST 1048576: true; the input reads as it did. -/
def wordsSignsUptoRow : OpenClaim := { program := "ytjpjcmokffjnaaa", sum := "559ca84c78171994af54e5c1565dd017bd5f4a1a852eaaa79dee1fa99eee29fe", func := "halberd/halberdlaw01.WordsSigns", spec := "wordsSigns", apart := false, narrowed := true }
def WordsSignsUptoSaid : Prop := wordsSignsUptoRow.holds Try.pinned (OpenSpec.upto wordsSignsSpec)

/-- 'halberdlaw01.WordsBytes', WHERE WHAT IT READS IS OF BULK AT MOST 1048576: true; the input reads as it did. -/
def wordsBytesUptoRow : OpenClaim := { program := "ytjpjcmokffjnaaa", sum := "559ca84c78171994af54e5c1565dd017bd5f4a1a852eaaa79dee1fa99eee29fe", func := "halberd/halberdlaw01.WordsBytes", spec := "wordsBytes", apart := false, narrowed := true }
def WordsBytesUptoSaid : Prop := wordsBytesUptoRow.holds Try.pinned (OpenSpec.upto wordsBytesSpec)

/-- 'halberdlaw16.HelpersBy', WHERE WHAT IT READS IS OF BULK AT MOST 1048576: true; the input reads as it did. -/
def helpersByUptoRow : OpenClaim := { program := "ytjpjcmokffjnaaa", sum := "559ca84c78171994af54e5c1565dd017bd5f4a1a852eaaa79dee1fa99eee29fe", func := "halberd/halberdlaw16.HelpersBy", spec := "helpersBy", unfollowed := true, recurses := true, apart := false, narrowed := true }
def HelpersByUptoSaid : Prop := helpersByUptoRow.holds Try.pinned (OpenSpec.upto helpersBySpec)

/-- 'halberdlaw16.HelpersOf', WHERE WHAT IT READS IS OF BULK AT MOST 1048576: true; the input reads as it did. -/
def helpersOfUptoRow : OpenClaim := { program := "ytjpjcmokffjnaaa", sum := "559ca84c78171994af54e5c1565dd017bd5f4a1a852eaaa79dee1fa99eee29fe", func := "halberd/halberdlaw16.HelpersOf", spec := "helpersOf", unfollowed := true, recurses := true, apart := false, narrowed := true }
def HelpersOfUptoSaid : Prop := helpersOfUptoRow.holds Try.pinned (OpenSpec.upto helpersOfSpec)

/-- 'halberdlaw16.HelpersOwn', WHERE WHAT IT READS IS OF BULK AT MOST 1048576: true; the input reads as it did. -/
def helpersOwnUptoRow : OpenClaim := { program := "ytjpjcmokffjnaaa", sum := "559ca84c78171994af54e5c1565dd017bd5f4a1a852eaaa79dee1fa99eee29fe", func := "halberd/halberdlaw16.HelpersOwn", spec := "helpersOwn", unfollowed := true, recurses := true, apart := false, narrowed := true }
def HelpersOwnUptoSaid : Prop := helpersOwnUptoRow.holds Try.pinned (OpenSpec.upto helpersOwnSpec)

/-- 'halberdlaw02.InstReads', WHERE WHAT IT READS IS OF BULK AT MOST 1048576: true; the input reads as it did. -/
def instReadsUptoRow : OpenClaim := { program := "ytjpjcmokffjnaaa", sum := "559ca84c78171994af54e5c1565dd017bd5f4a1a852eaaa79dee1fa99eee29fe", func := "halberd/halberdlaw02.InstReads", spec := "instReads", unfollowed := true, recurses := true, apart := false, narrowed := true }
def InstReadsUptoSaid : Prop := instReadsUptoRow.holds Try.pinned (OpenSpec.upto instReadsSpec)

/-- 'halberdlaw02.InstBack', WHERE WHAT IT READS IS OF BULK AT MOST 1048576: true; the input reads as it did. -/
def instBackUptoRow : OpenClaim := { program := "ytjpjcmokffjnaaa", sum := "559ca84c78171994af54e5c1565dd017bd5f4a1a852eaaa79dee1fa99eee29fe", func := "halberd/halberdlaw02.InstBack", spec := "instBack", unfollowed := true, recurses := true, apart := false, narrowed := true }
def InstBackUptoSaid : Prop := instBackUptoRow.holds Try.pinned (OpenSpec.upto instBackSpec)

end Rows
end Go.Proofs.Ytjpjcmokffjnaaa
