-- PRINTED by print.py (a twelfth state) out of the translation. Not trusted: Lean checks it.
import Derived.Test.YtalghfnjelcpnaaDoorProg
import Derived.Below
import Derived.Deep.Draws
import Derived.Deep.AppendLies
import Derived.Maps.AppendAt
import Derived.OwnWalk
import Derived.Laws.BytesArg
import Derived.Laws.MakeOwn
import Derived.Laws.OwnMore
import Derived.Deep.OwnRows
import Derived.Tactics
import Derived.Lib.ConvBytes
import Derived.Laws.Slices
import Derived.WalkKit
import Derived.KernelRfl
import Derived.RowKit3
import Derived.Deep.LoopGhost
import Derived.Deep.QuietTactic
import Derived.BigQuiet
import Derived.WideLaws
import Derived.Deep.DeepCutAuto
import Derived.Deep.CutBlock
import Derived.Deep.RegionHeld3
import Derived.Laws.Rows
import Derived.Lib.AppendStr
import Derived.ArgAppend
import Derived.Laws.IdiomCopy
import Derived.OrdersHeld
import Derived.Laws.BitsLemmas
import Derived.RowKit
import Derived.Test.YtalghfnjelcpnaaDoorXw
import Derived.Test.YtalghfnjelcpnaaDoorWWords
import Derived.Test.YtalghfnjelcpnaaDoorWLast
import Derived.Test.YtalghfnjelcpnaaDoorWTab
import Derived.Test.YtalghfnjelcpnaaDoorWFour
import Derived.Test.YtalghfnjelcpnaaDoorWQPut
import Derived.Test.YtalghfnjelcpnaaDoorWApart
import Derived.Test.YtalghfnjelcpnaaDoorWArr
import Derived.Test.YtalghfnjelcpnaaDoorWZeros
import Derived.Test.YtalghfnjelcpnaaDoorWFoot
import Derived.Test.YtalghfnjelcpnaaDoorWKept
import Derived.Test.YtalghfnjelcpnaaDoorWShare
import Derived.Test.YtalghfnjelcpnaaDoorWN
import Derived.Test.YtalghfnjelcpnaaDoorWFootNe
import Derived.Test.YtalghfnjelcpnaaDoorWAt
import Derived.Test.YtalghfnjelcpnaaDoorWEqStruct
import Derived.Test.YtalghfnjelcpnaaDoorWRepsOne
import Derived.Test.YtalghfnjelcpnaaDoorWInv
import Derived.Test.YtalghfnjelcpnaaDoorWInvWords
import Derived.Test.YtalghfnjelcpnaaDoorWGuard
import Derived.Test.YtalghfnjelcpnaaDoorWNEv
import Derived.Test.YtalghfnjelcpnaaDoorWMore
namespace Go.Proofs.YtalghfnjelcpnaaDoor.Tr
open Go.RowKit Go.Proofs.YtalghfnjelcpnaaDoorW.PrintWords Go.Proofs.YtalghfnjelcpnaaDoorW.PrintLast Go.Proofs.YtalghfnjelcpnaaDoorW.PrintMore
attribute [local go_sem] max2_int min2_int max_two min_two max_three min_three max_four min_four   -- for this text's walks alone
set_option linter.unusedVariables false
set_option linter.unusedSimpArgs false



def errW : Option Int → Value
  | none => .nilIface
  | some c => .iface 0 (.int .i64 c)
theorem errW_none : errW none = .nilIface := rfl
theorem errW_some (c : Int) : errW (some c) = .iface 0 (.int .i64 c) := rfl

-- the values' own types

end Go.Proofs.YtalghfnjelcpnaaDoor.Tr
