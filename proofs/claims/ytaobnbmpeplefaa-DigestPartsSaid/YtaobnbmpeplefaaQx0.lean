/- Functions of the translation told as plain Lean functions, and that the calls come to just these. Written by a program of this session, which drives print.py; not a text of print.sh. -/
import Derived.Test.YtaobnbmpeplefaaProg
import Derived.Below
import Derived.Deep.Draws
import Derived.Deep.AppendLies
import Derived.Maps.AppendAt
import Derived.OwnWalk
import Derived.Laws.BytesArg
import Derived.Laws.MakeOwn
import Derived.Laws.OwnMore
import Derived.Deep.OwnRows
import Derived.Tactics
import Derived.Lib.ConvBytes
import Derived.Laws.Slices
import Derived.WalkKit
import Derived.KernelRfl
import Derived.RowKit3
import Derived.Deep.LoopGhost
import Derived.Deep.QuietTactic
import Derived.BigQuiet
import Derived.WideLaws
import Derived.Deep.DeepCutAuto
import Derived.Deep.CutBlock
import Derived.Deep.RegionHeld3
import Derived.Laws.Rows
import Derived.Lib.AppendStr
import Derived.ArgAppend
import Derived.Laws.IdiomCopy
import Derived.OrdersHeld
import Derived.Laws.BitsLemmas
import Derived.RowKit
import Derived.Test.YtaobnbmpeplefaaWWords
import Derived.Test.YtaobnbmpeplefaaWLast
import Derived.Test.YtaobnbmpeplefaaWTab
import Derived.Test.YtaobnbmpeplefaaWFour
import Derived.Test.YtaobnbmpeplefaaWQPut
import Derived.Test.YtaobnbmpeplefaaWApart
import Derived.Test.YtaobnbmpeplefaaWArr
import Derived.Test.YtaobnbmpeplefaaWZeros
import Derived.Test.YtaobnbmpeplefaaWFoot
import Derived.Test.YtaobnbmpeplefaaWKept
import Derived.Test.YtaobnbmpeplefaaWShare
import Derived.Test.YtaobnbmpeplefaaWN
import Derived.Test.YtaobnbmpeplefaaWFootNe
import Derived.Test.YtaobnbmpeplefaaWAt
import Derived.Test.YtaobnbmpeplefaaWEqStruct
import Derived.Test.YtaobnbmpeplefaaWRepsOne
import Derived.Test.YtaobnbmpeplefaaWInv
import Derived.Test.YtaobnbmpeplefaaWInvWords
import Derived.Test.YtaobnbmpeplefaaWGuard
import Derived.Test.YtaobnbmpeplefaaWNEv
import Derived.Test.YtaobnbmpeplefaaWMore
namespace Go.Proofs.Ytaobnbmpeplefaa.Q
open Go.RowKit Go.Proofs.YtaobnbmpeplefaaW.PrintWords Go.Proofs.YtaobnbmpeplefaaW.PrintLast Go.Proofs.YtaobnbmpeplefaaW.PrintMore
attribute [local go_sem] max2_int min2_int max_two min_two max_three min_three max_four min_four   -- for this text's walks alone
set_option linter.unusedVariables false
set_option linter.unusedSimpArgs false



def errW : Option Int → Value
  | none => .nilIface
  | some c => .iface 0 (.int .i64 c)
theorem errW_none : errW none = .nilIface := rfl
theorem errW_some (c : Int) : errW (some c) = .iface 0 (.int .i64 c) := rfl

theorem info34 : (Try.prog.info? 34).map (fun i => (i.zero, i.size, i.bytes)) = some (some (.int .u32 0), 1, 4) := by kernel_rfl
-- the values' own types

end Go.Proofs.Ytaobnbmpeplefaa.Q
