/- Functions of the program that some laws reach, as Lean functions, and proofs that the program's calls come to what they say: written by a program, for the texts that import it; each theorem bears its own conditions. -/
import Derived.Test.YtgkdbhkbkpfbpaaProg
import Derived.Below
import Derived.Deep.Draws
import Derived.Deep.AppendLies
import Derived.Maps.AppendAt
import Derived.OwnWalk
import Derived.Laws.BytesArg
import Derived.Laws.MakeOwn
import Derived.Laws.OwnMore
import Derived.Deep.OwnRows
import Derived.Tactics
import Derived.Lib.ConvBytes
import Derived.Laws.Slices
import Derived.WalkKit
import Derived.KernelRfl
import Derived.RowKit3
import Derived.Deep.LoopGhost
import Derived.Deep.QuietTactic
import Derived.BigQuiet
import Derived.WideLaws
import Derived.Deep.DeepCutAuto
import Derived.Deep.CutBlock
import Derived.Deep.RegionHeld3
import Derived.Laws.Rows
import Derived.Lib.AppendStr
import Derived.ArgAppend
import Derived.Laws.IdiomCopy
import Derived.OrdersHeld
import Derived.Laws.BitsLemmas
import Derived.RowKit
import Derived.Test.YtgkdbhkbkpfbpaaWWords
import Derived.Test.YtgkdbhkbkpfbpaaWLast
import Derived.Test.YtgkdbhkbkpfbpaaWTab
import Derived.Test.YtgkdbhkbkpfbpaaWFour
import Derived.Test.YtgkdbhkbkpfbpaaWQPut
import Derived.Test.YtgkdbhkbkpfbpaaWApart
import Derived.Test.YtgkdbhkbkpfbpaaWArr
import Derived.Test.YtgkdbhkbkpfbpaaWZeros
import Derived.Test.YtgkdbhkbkpfbpaaWFoot
import Derived.Test.YtgkdbhkbkpfbpaaWKept
import Derived.Test.YtgkdbhkbkpfbpaaWShare
import Derived.Test.YtgkdbhkbkpfbpaaWN
import Derived.Test.YtgkdbhkbkpfbpaaWFootNe
import Derived.Test.YtgkdbhkbkpfbpaaWAt
import Derived.Test.YtgkdbhkbkpfbpaaWEqStruct
import Derived.Test.YtgkdbhkbkpfbpaaWRepsOne
import Derived.Test.YtgkdbhkbkpfbpaaWInv
import Derived.Test.YtgkdbhkbkpfbpaaWInvWords
import Derived.Test.YtgkdbhkbkpfbpaaWGuard
import Derived.Test.YtgkdbhkbkpfbpaaWNEv
import Derived.Test.YtgkdbhkbkpfbpaaWMore
import Derived.Test.YtgkdbhkbkpfbpaaHK
namespace Go.Proofs.Ytgkdbhkbkpfbpaa.PHashFills
open Go.RowKit Go.Proofs.YtgkdbhkbkpfbpaaW.PrintWords Go.Proofs.YtgkdbhkbkpfbpaaW.PrintLast Go.Proofs.YtgkdbhkbkpfbpaaW.PrintMore
attribute [local go_sem] max2_int min2_int max_two min_two max_three min_three max_four min_four   -- for this text's walks alone
set_option linter.unusedVariables false
set_option linter.unusedSimpArgs false



def errW : Option Int → Value
  | none => .nilIface
  | some c => .iface 0 (.int .i64 c)
theorem errW_none : errW none = .nilIface := rfl
theorem errW_some (c : Int) : errW (some c) = .iface 0 (.int .i64 c) := rfl

-- the values' own types

end Go.Proofs.Ytgkdbhkbkpfbpaa.PHashFills
