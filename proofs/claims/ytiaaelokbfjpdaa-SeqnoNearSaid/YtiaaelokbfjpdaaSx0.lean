/- What the program's functions compute, as plain functions, and that they do: walks laid by a program of the session's. -/
import Derived.Test.YtiaaelokbfjpdaaProg
import Derived.Below
import Derived.Deep.Draws
import Derived.Deep.AppendLies
import Derived.Maps.AppendAt
import Derived.OwnWalk
import Derived.Laws.BytesArg
import Derived.Laws.MakeOwn
import Derived.Laws.OwnMore
import Derived.Deep.OwnRows
import Derived.Tactics
import Derived.Lib.ConvBytes
import Derived.Laws.Slices
import Derived.WalkKit
import Derived.KernelRfl
import Derived.RowKit3
import Derived.Deep.LoopGhost
import Derived.Deep.QuietTactic
import Derived.BigQuiet
import Derived.WideLaws
import Derived.Deep.DeepCutAuto
import Derived.Deep.CutBlock
import Derived.Deep.RegionHeld3
import Derived.Laws.Rows
import Derived.Lib.AppendStr
import Derived.ArgAppend
import Derived.Laws.IdiomCopy
import Derived.OrdersHeld
import Derived.Laws.BitsLemmas
import Derived.RowKit
import Derived.Test.YtiaaelokbfjpdaaGUnwrap
import Derived.Test.YtiaaelokbfjpdaaWWords
import Derived.Test.YtiaaelokbfjpdaaWLast
import Derived.Test.YtiaaelokbfjpdaaWTab
import Derived.Test.YtiaaelokbfjpdaaWFour
import Derived.Test.YtiaaelokbfjpdaaWQPut
import Derived.Test.YtiaaelokbfjpdaaWApart
import Derived.Test.YtiaaelokbfjpdaaWArr
import Derived.Test.YtiaaelokbfjpdaaWZeros
import Derived.Test.YtiaaelokbfjpdaaWFoot
import Derived.Test.YtiaaelokbfjpdaaWKept
import Derived.Test.YtiaaelokbfjpdaaWShare
import Derived.Test.YtiaaelokbfjpdaaWN
import Derived.Test.YtiaaelokbfjpdaaWFootNe
import Derived.Test.YtiaaelokbfjpdaaWAt
import Derived.Test.YtiaaelokbfjpdaaWEqStruct
import Derived.Test.YtiaaelokbfjpdaaWRepsOne
import Derived.Test.YtiaaelokbfjpdaaWInv
import Derived.Test.YtiaaelokbfjpdaaWInvWords
import Derived.Test.YtiaaelokbfjpdaaWGuard
import Derived.Test.YtiaaelokbfjpdaaWNEv
import Derived.Test.YtiaaelokbfjpdaaWMore
namespace Go.Proofs.Ytiaaelokbfjpdaa.S
open Go.RowKit Go.Proofs.YtiaaelokbfjpdaaW.PrintWords Go.Proofs.YtiaaelokbfjpdaaW.PrintLast Go.Proofs.YtiaaelokbfjpdaaW.PrintMore
open Go.Proofs.Ytiaaelokbfjpdaa.Given
attribute [local go_sem] max2_int min2_int max_two min_two max_three min_three max_four min_four   -- for this text's walks alone
set_option linter.unusedVariables false
set_option linter.unusedSimpArgs false



def errW : Option Int → Value
  | none => .nilIface
  | some c => .iface 0 (.int .i64 c)
theorem errW_none : errW none = .nilIface := rfl
theorem errW_some (c : Int) : errW (some c) = .iface 0 (.int .i64 c) := rfl

-- the values' own types

end Go.Proofs.Ytiaaelokbfjpdaa.S
