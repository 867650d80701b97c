/- Functions of the translation told as plain Lean functions, and that the calls come to just these. Written by a program of this session, which drives print.py; not a text of print.sh. -/
import Derived.Test.YtamjiofhfoedgaaProg
import Derived.Below
import Derived.Deep.Draws
import Derived.Deep.AppendLies
import Derived.Maps.AppendAt
import Derived.OwnWalk
import Derived.Laws.BytesArg
import Derived.Laws.MakeOwn
import Derived.Laws.OwnMore
import Derived.Deep.OwnRows
import Derived.Tactics
import Derived.Lib.ConvBytes
import Derived.Laws.Slices
import Derived.WalkKit
import Derived.KernelRfl
import Derived.RowKit3
import Derived.Deep.LoopGhost
import Derived.Deep.QuietTactic
import Derived.BigQuiet
import Derived.WideLaws
import Derived.Deep.DeepCutAuto
import Derived.Deep.CutBlock
import Derived.Deep.RegionHeld3
import Derived.Laws.Rows
import Derived.Lib.AppendStr
import Derived.ArgAppend
import Derived.Laws.IdiomCopy
import Derived.OrdersHeld
import Derived.Laws.BitsLemmas
import Derived.RowKit
import Derived.Test.YtamjiofhfoedgaaWWords
import Derived.Test.YtamjiofhfoedgaaWLast
import Derived.Test.YtamjiofhfoedgaaWTab
import Derived.Test.YtamjiofhfoedgaaWFour
import Derived.Test.YtamjiofhfoedgaaWQPut
import Derived.Test.YtamjiofhfoedgaaWApart
import Derived.Test.YtamjiofhfoedgaaWArr
import Derived.Test.YtamjiofhfoedgaaWZeros
import Derived.Test.YtamjiofhfoedgaaWFoot
import Derived.Test.YtamjiofhfoedgaaWKept
import Derived.Test.YtamjiofhfoedgaaWShare
import Derived.Test.YtamjiofhfoedgaaWN
import Derived.Test.YtamjiofhfoedgaaWFootNe
import Derived.Test.YtamjiofhfoedgaaWAt
import Derived.Test.YtamjiofhfoedgaaWEqStruct
import Derived.Test.YtamjiofhfoedgaaWRepsOne
import Derived.Test.YtamjiofhfoedgaaWInv
import Derived.Test.YtamjiofhfoedgaaWInvWords
import Derived.Test.YtamjiofhfoedgaaWGuard
import Derived.Test.YtamjiofhfoedgaaWNEv
import Derived.Test.YtamjiofhfoedgaaWMore
namespace Go.Proofs.Ytamjiofhfoedgaa.Q
open Go.RowKit Go.Proofs.YtamjiofhfoedgaaW.PrintWords Go.Proofs.YtamjiofhfoedgaaW.PrintLast Go.Proofs.YtamjiofhfoedgaaW.PrintMore
attribute [local go_sem] max2_int min2_int max_two min_two max_three min_three max_four min_four   -- for this text's walks alone
set_option linter.unusedVariables false
set_option linter.unusedSimpArgs false



def errW : Option Int → Value
  | none => .nilIface
  | some c => .iface 0 (.int .i64 c)
theorem errW_none : errW none = .nilIface := rfl
theorem errW_some (c : Int) : errW (some c) = .iface 0 (.int .i64 c) := rfl

theorem info5 : (Try.prog.info? 5).map (fun i => (i.zero, i.size, i.bytes)) = some (some (.int .u8 0), 1, 1) := by kernel_rfl
-- the values' own types

end Go.Proofs.Ytamjiofhfoedgaa.Q
