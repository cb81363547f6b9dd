/- Functions of the translation as plain Lean functions, and proofs that the calls come to what these say. No condition. Written by a program of this session (wip/xprint.py); not trusted: Lean checks it. -/
import Derived.Test.YtnmpojodadlnmaaProg
import Derived.Below
import Derived.Deep.Draws
import Derived.Deep.AppendLies
import Derived.Maps.AppendAt
import Derived.OwnWalk
import Derived.Laws.BytesArg
import Derived.Laws.MakeOwn
import Derived.Laws.OwnMore
import Derived.Deep.OwnRows
import Derived.Tactics
import Derived.Lib.ConvBytes
import Derived.Laws.Slices
import Derived.WalkKit
import Derived.KernelRfl
import Derived.RowKit3
import Derived.Deep.LoopGhost
import Derived.Deep.QuietTactic
import Derived.BigQuiet
import Derived.WideLaws
import Derived.Deep.DeepCutAuto
import Derived.Deep.CutBlock
import Derived.Deep.RegionHeld3
import Derived.Laws.Rows
import Derived.Lib.AppendStr
import Derived.ArgAppend
import Derived.Laws.IdiomCopy
import Derived.OrdersHeld
import Derived.Laws.BitsLemmas
import Derived.RowKit
import Derived.Lib.SlBytesConst
import Derived.Lib.SliceRun
import Derived.Laws.Cover1
import Derived.Test.YtnmpojodadlnmaaWWords
import Derived.Test.YtnmpojodadlnmaaWLast
import Derived.Test.YtnmpojodadlnmaaWTab
import Derived.Test.YtnmpojodadlnmaaWFour
import Derived.Test.YtnmpojodadlnmaaWQPut
import Derived.Test.YtnmpojodadlnmaaWApart
import Derived.Test.YtnmpojodadlnmaaWArr
import Derived.Test.YtnmpojodadlnmaaWZeros
import Derived.Test.YtnmpojodadlnmaaWFoot
import Derived.Test.YtnmpojodadlnmaaWKept
import Derived.Test.YtnmpojodadlnmaaWShare
import Derived.Test.YtnmpojodadlnmaaWN
import Derived.Test.YtnmpojodadlnmaaWFootNe
import Derived.Test.YtnmpojodadlnmaaWAt
import Derived.Test.YtnmpojodadlnmaaWEqStruct
import Derived.Test.YtnmpojodadlnmaaWRepsOne
import Derived.Test.YtnmpojodadlnmaaWInv
import Derived.Test.YtnmpojodadlnmaaWInvWords
import Derived.Test.YtnmpojodadlnmaaWGuard
import Derived.Test.YtnmpojodadlnmaaWNEv
import Derived.Test.YtnmpojodadlnmaaWMore
namespace Go.Proofs.Ytnmpojodadlnmaa.X
open Go.RowKit Go.Proofs.YtnmpojodadlnmaaW.PrintWords Go.Proofs.YtnmpojodadlnmaaW.PrintLast Go.Proofs.YtnmpojodadlnmaaW.PrintMore
attribute [local go_sem] max2_int min2_int max_two min_two max_three min_three max_four min_four   -- for this text's walks alone
set_option linter.unusedVariables false
set_option linter.unusedSimpArgs false



def errW : Option Int → Value
  | none => .nilIface
  | some c => .iface 0 (.int .i64 c)
theorem errW_none : errW none = .nilIface := rfl
theorem errW_some (c : Int) : errW (some c) = .iface 0 (.int .i64 c) := rfl

theorem info5 : (Try.prog.info? 5).map (fun i => (i.zero, i.size, i.bytes)) = some (some (.int .u8 0), 1, 1) := by kernel_rfl
-- the values' own types

end Go.Proofs.Ytnmpojodadlnmaa.X
