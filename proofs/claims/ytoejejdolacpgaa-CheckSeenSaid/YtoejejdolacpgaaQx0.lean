/- Functions of the translation told as plain Lean functions, and that the calls come to just these. Written by a program of this session, which drives print.py; not a text of print.sh. -/
import Derived.Test.YtoejejdolacpgaaProg
import Derived.Below
import Derived.Deep.Draws
import Derived.Deep.AppendLies
import Derived.Maps.AppendAt
import Derived.OwnWalk
import Derived.Laws.BytesArg
import Derived.Laws.MakeOwn
import Derived.Laws.OwnMore
import Derived.Deep.OwnRows
import Derived.Tactics
import Derived.Lib.ConvBytes
import Derived.Laws.Slices
import Derived.WalkKit
import Derived.KernelRfl
import Derived.RowKit3
import Derived.Deep.LoopGhost
import Derived.Deep.QuietTactic
import Derived.BigQuiet
import Derived.WideLaws
import Derived.Deep.DeepCutAuto
import Derived.Deep.CutBlock
import Derived.Deep.RegionHeld3
import Derived.Laws.Rows
import Derived.Lib.AppendStr
import Derived.ArgAppend
import Derived.Laws.IdiomCopy
import Derived.OrdersHeld
import Derived.Laws.BitsLemmas
import Derived.RowKit
import Derived.Test.YtoejejdolacpgaaCrc
import Derived.Test.YtoejejdolacpgaaCrcRef
import Derived.Test.YtoejejdolacpgaaWWords
import Derived.Test.YtoejejdolacpgaaWLast
import Derived.Test.YtoejejdolacpgaaWTab
import Derived.Test.YtoejejdolacpgaaWFour
import Derived.Test.YtoejejdolacpgaaWQPut
import Derived.Test.YtoejejdolacpgaaWApart
import Derived.Test.YtoejejdolacpgaaWArr
import Derived.Test.YtoejejdolacpgaaWZeros
import Derived.Test.YtoejejdolacpgaaWFoot
import Derived.Test.YtoejejdolacpgaaWKept
import Derived.Test.YtoejejdolacpgaaWShare
import Derived.Test.YtoejejdolacpgaaWN
import Derived.Test.YtoejejdolacpgaaWFootNe
import Derived.Test.YtoejejdolacpgaaWAt
import Derived.Test.YtoejejdolacpgaaWEqStruct
import Derived.Test.YtoejejdolacpgaaWRepsOne
import Derived.Test.YtoejejdolacpgaaWInv
import Derived.Test.YtoejejdolacpgaaWInvWords
import Derived.Test.YtoejejdolacpgaaWGuard
import Derived.Test.YtoejejdolacpgaaWNEv
import Derived.Test.YtoejejdolacpgaaWMore
namespace Go.Proofs.Ytoejejdolacpgaa.Q
open Go.RowKit Go.Proofs.YtoejejdolacpgaaW.PrintWords Go.Proofs.YtoejejdolacpgaaW.PrintLast Go.Proofs.YtoejejdolacpgaaW.PrintMore
attribute [local go_sem] max2_int min2_int max_two min_two max_three min_three max_four min_four   -- for this text's walks alone
set_option linter.unusedVariables false
set_option linter.unusedSimpArgs false



def errW : Option Int → Value
  | none => .nilIface
  | some c => .iface 0 (.int .i64 c)
theorem errW_none : errW none = .nilIface := rfl
theorem errW_some (c : Int) : errW (some c) = .iface 0 (.int .i64 c) := rfl

theorem info5 : (Try.prog.info? 5).map (fun i => (i.zero, i.size, i.bytes)) = some (some (.int .u8 0), 1, 1) := by kernel_rfl
-- the values' own types

end Go.Proofs.Ytoejejdolacpgaa.Q
