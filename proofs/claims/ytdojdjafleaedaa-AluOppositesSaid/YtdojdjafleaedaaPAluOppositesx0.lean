/- Functions of the program that some laws reach, as Lean functions, and proofs that the program's calls come to what they say: written by a program, for the texts that import it; each theorem bears its own conditions. -/
import Derived.Test.YtdojdjafleaedaaProg
import Derived.Below
import Derived.Deep.Draws
import Derived.Deep.AppendLies
import Derived.Maps.AppendAt
import Derived.OwnWalk
import Derived.Laws.BytesArg
import Derived.Laws.MakeOwn
import Derived.Laws.OwnMore
import Derived.Deep.OwnRows
import Derived.Tactics
import Derived.Lib.ConvBytes
import Derived.Laws.Slices
import Derived.WalkKit
import Derived.KernelRfl
import Derived.RowKit3
import Derived.Deep.LoopGhost
import Derived.Deep.QuietTactic
import Derived.BigQuiet
import Derived.WideLaws
import Derived.Deep.DeepCutAuto
import Derived.Deep.CutBlock
import Derived.Deep.RegionHeld3
import Derived.Laws.Rows
import Derived.Lib.AppendStr
import Derived.ArgAppend
import Derived.Laws.IdiomCopy
import Derived.OrdersHeld
import Derived.Laws.BitsLemmas
import Derived.RowKit
import Derived.Test.YtdojdjafleaedaaWWords
import Derived.Test.YtdojdjafleaedaaWLast
import Derived.Test.YtdojdjafleaedaaWTab
import Derived.Test.YtdojdjafleaedaaWFour
import Derived.Test.YtdojdjafleaedaaWQPut
import Derived.Test.YtdojdjafleaedaaWApart
import Derived.Test.YtdojdjafleaedaaWArr
import Derived.Test.YtdojdjafleaedaaWZeros
import Derived.Test.YtdojdjafleaedaaWFoot
import Derived.Test.YtdojdjafleaedaaWKept
import Derived.Test.YtdojdjafleaedaaWShare
import Derived.Test.YtdojdjafleaedaaWN
import Derived.Test.YtdojdjafleaedaaWFootNe
import Derived.Test.YtdojdjafleaedaaWAt
import Derived.Test.YtdojdjafleaedaaWEqStruct
import Derived.Test.YtdojdjafleaedaaWRepsOne
import Derived.Test.YtdojdjafleaedaaWInv
import Derived.Test.YtdojdjafleaedaaWInvWords
import Derived.Test.YtdojdjafleaedaaWGuard
import Derived.Test.YtdojdjafleaedaaWNEv
import Derived.Test.YtdojdjafleaedaaWMore
import Derived.RegionTactic
import Derived.ChangeAlike
import Derived.MapKept
import Derived.LoopN
namespace Go.Proofs.Ytdojdjafleaedaa.PAluOpposites
open Go.RowKit Go.Proofs.YtdojdjafleaedaaW.PrintWords Go.Proofs.YtdojdjafleaedaaW.PrintLast Go.Proofs.YtdojdjafleaedaaW.PrintMore
attribute [local go_sem] max2_int min2_int max_two min_two max_three min_three max_four min_four   -- for this text's walks alone
set_option linter.unusedVariables false
set_option linter.unusedSimpArgs false



def errW : Option Int → Value
  | none => .nilIface
  | some c => .iface 0 (.int .i64 c)
theorem errW_none : errW none = .nilIface := rfl
theorem errW_some (c : Int) : errW (some c) = .iface 0 (.int .i64 c) := rfl

-- the values' own types

end Go.Proofs.Ytdojdjafleaedaa.PAluOpposites
