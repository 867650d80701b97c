/- Functions of the translation told as plain Lean functions, and that the calls come to just these. Written by a program of this session, which drives print.py; not a text of print.sh. -/
import Derived.Test.YteccjhiafnnnlaaProg
import Derived.Below
import Derived.Deep.Draws
import Derived.Deep.AppendLies
import Derived.Maps.AppendAt
import Derived.OwnWalk
import Derived.Laws.BytesArg
import Derived.Laws.MakeOwn
import Derived.Laws.OwnMore
import Derived.Deep.OwnRows
import Derived.Tactics
import Derived.Lib.ConvBytes
import Derived.Laws.Slices
import Derived.WalkKit
import Derived.KernelRfl
import Derived.RowKit3
import Derived.Deep.LoopGhost
import Derived.Deep.QuietTactic
import Derived.BigQuiet
import Derived.WideLaws
import Derived.Deep.DeepCutAuto
import Derived.Deep.CutBlock
import Derived.Deep.RegionHeld3
import Derived.Laws.Rows
import Derived.Lib.AppendStr
import Derived.ArgAppend
import Derived.Laws.IdiomCopy
import Derived.OrdersHeld
import Derived.Laws.BitsLemmas
import Derived.RowKit
import Derived.Test.YteccjhiafnnnlaaWWords
import Derived.Test.YteccjhiafnnnlaaWLast
import Derived.Test.YteccjhiafnnnlaaWTab
import Derived.Test.YteccjhiafnnnlaaWFour
import Derived.Test.YteccjhiafnnnlaaWQPut
import Derived.Test.YteccjhiafnnnlaaWApart
import Derived.Test.YteccjhiafnnnlaaWArr
import Derived.Test.YteccjhiafnnnlaaWZeros
import Derived.Test.YteccjhiafnnnlaaWFoot
import Derived.Test.YteccjhiafnnnlaaWKept
import Derived.Test.YteccjhiafnnnlaaWShare
import Derived.Test.YteccjhiafnnnlaaWN
import Derived.Test.YteccjhiafnnnlaaWFootNe
import Derived.Test.YteccjhiafnnnlaaWAt
import Derived.Test.YteccjhiafnnnlaaWEqStruct
import Derived.Test.YteccjhiafnnnlaaWRepsOne
import Derived.Test.YteccjhiafnnnlaaWInv
import Derived.Test.YteccjhiafnnnlaaWInvWords
import Derived.Test.YteccjhiafnnnlaaWGuard
import Derived.Test.YteccjhiafnnnlaaWNEv
import Derived.Test.YteccjhiafnnnlaaWMore
namespace Go.Proofs.Yteccjhiafnnnlaa.Q
open Go.RowKit Go.Proofs.YteccjhiafnnnlaaW.PrintWords Go.Proofs.YteccjhiafnnnlaaW.PrintLast Go.Proofs.YteccjhiafnnnlaaW.PrintMore
attribute [local go_sem] max2_int min2_int max_two min_two max_three min_three max_four min_four   -- for this text's walks alone
set_option linter.unusedVariables false
set_option linter.unusedSimpArgs false



def errW : Option Int → Value
  | none => .nilIface
  | some c => .iface 0 (.int .i64 c)
theorem errW_none : errW none = .nilIface := rfl
theorem errW_some (c : Int) : errW (some c) = .iface 0 (.int .i64 c) := rfl

-- the values' own types

end Go.Proofs.Yteccjhiafnnnlaa.Q
