/- Functions of the program that some laws reach, as Lean functions, and proofs that the program's calls come to what they say: written by a program, for the texts that import it; each theorem bears its own conditions. -/
import Derived.Test.YteckjmejngieeaaProg
import Derived.Below
import Derived.Deep.Draws
import Derived.Deep.AppendLies
import Derived.Maps.AppendAt
import Derived.OwnWalk
import Derived.Laws.BytesArg
import Derived.Laws.MakeOwn
import Derived.Laws.OwnMore
import Derived.Deep.OwnRows
import Derived.Tactics
import Derived.Lib.ConvBytes
import Derived.Laws.Slices
import Derived.WalkKit
import Derived.KernelRfl
import Derived.RowKit3
import Derived.Deep.LoopGhost
import Derived.Deep.QuietTactic
import Derived.BigQuiet
import Derived.WideLaws
import Derived.Deep.DeepCutAuto
import Derived.Deep.CutBlock
import Derived.Deep.RegionHeld3
import Derived.Laws.Rows
import Derived.Lib.AppendStr
import Derived.ArgAppend
import Derived.Laws.IdiomCopy
import Derived.OrdersHeld
import Derived.Laws.BitsLemmas
import Derived.RowKit
import Derived.Test.YteckjmejngieeaaWWords
import Derived.Test.YteckjmejngieeaaWLast
import Derived.Test.YteckjmejngieeaaWTab
import Derived.Test.YteckjmejngieeaaWFour
import Derived.Test.YteckjmejngieeaaWQPut
import Derived.Test.YteckjmejngieeaaWApart
import Derived.Test.YteckjmejngieeaaWArr
import Derived.Test.YteckjmejngieeaaWZeros
import Derived.Test.YteckjmejngieeaaWFoot
import Derived.Test.YteckjmejngieeaaWKept
import Derived.Test.YteckjmejngieeaaWShare
import Derived.Test.YteckjmejngieeaaWN
import Derived.Test.YteckjmejngieeaaWFootNe
import Derived.Test.YteckjmejngieeaaWAt
import Derived.Test.YteckjmejngieeaaWEqStruct
import Derived.Test.YteckjmejngieeaaWRepsOne
import Derived.Test.YteckjmejngieeaaWInv
import Derived.Test.YteckjmejngieeaaWInvWords
import Derived.Test.YteckjmejngieeaaWGuard
import Derived.Test.YteckjmejngieeaaWNEv
import Derived.Test.YteckjmejngieeaaWMore
import Derived.Test.YteckjmejngieeaaEV
import Derived.Laws.IdiomStrings
namespace Go.Proofs.Yteckjmejngieeaa.PHooksBy
open Go.RowKit Go.Proofs.YteckjmejngieeaaW.PrintWords Go.Proofs.YteckjmejngieeaaW.PrintLast Go.Proofs.YteckjmejngieeaaW.PrintMore
attribute [local go_sem] max2_int min2_int max_two min_two max_three min_three max_four min_four   -- for this text's walks alone
set_option linter.unusedVariables false
set_option linter.unusedSimpArgs false



def errW : Option Int → Value
  | none => .nilIface
  | some c => .iface 0 (.int .i64 c)
theorem errW_none : errW none = .nilIface := rfl
theorem errW_some (c : Int) : errW (some c) = .iface 0 (.int .i64 c) := rfl

theorem info9 : (Try.prog.info? 9).map (fun i => (i.zero, i.size, i.bytes)) = some (some (.string ⟨#[]⟩), 1, 16) := by kernel_rfl
-- the values' own types

end Go.Proofs.Yteckjmejngieeaa.PHooksBy
