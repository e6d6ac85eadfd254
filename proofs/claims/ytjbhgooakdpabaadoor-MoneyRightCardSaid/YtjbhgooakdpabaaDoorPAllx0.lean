-- written by xprint.py out of the translation. Not trusted: Lean checks it.
import Derived.Test.YtjbhgooakdpabaaDoorProg
import Derived.Test.YtjbhgooakdpabaaDoorBB
import Derived.Lib.Walk
import Derived.WalkKit
import Derived.BigCall
import Derived.BigGuard
import Derived.Below
import Derived.Deep.Draws
import Derived.Deep.AppendLies
import Derived.Maps.AppendAt
import Derived.OwnWalk
import Derived.Laws.BytesArg
import Derived.Laws.MakeOwn
import Derived.Laws.OwnMore
import Derived.Deep.OwnRows
import Derived.Tactics
import Derived.Lib.ConvBytes
import Derived.Laws.Slices
import Derived.WalkKit
import Derived.KernelRfl
import Derived.RowKit3
import Derived.Deep.LoopGhost
import Derived.Deep.QuietTactic
import Derived.BigQuiet
import Derived.WideLaws
import Derived.Deep.DeepCutAuto
import Derived.Deep.CutBlock
import Derived.Deep.RegionHeld3
import Derived.Laws.Rows
import Derived.Lib.AppendStr
import Derived.ArgAppend
import Derived.Laws.IdiomCopy
import Derived.OrdersHeld
import Derived.Laws.BitsLemmas
import Derived.RowKit
import Derived.Test.YtjbhgooakdpabaaDoorXWords
import Derived.Deep.RegionWith
import Derived.Deep.RegionHeld3
import Derived.Maps.OwnOps
import Derived.Maps.Views
import Derived.Test.YtjbhgooakdpabaaDoorWWords
import Derived.Test.YtjbhgooakdpabaaDoorWLast
import Derived.Test.YtjbhgooakdpabaaDoorWTab
import Derived.Test.YtjbhgooakdpabaaDoorWFour
import Derived.Test.YtjbhgooakdpabaaDoorWQPut
import Derived.Test.YtjbhgooakdpabaaDoorWApart
import Derived.Test.YtjbhgooakdpabaaDoorWArr
import Derived.Test.YtjbhgooakdpabaaDoorWZeros
import Derived.Test.YtjbhgooakdpabaaDoorWFoot
import Derived.Test.YtjbhgooakdpabaaDoorWKept
import Derived.Test.YtjbhgooakdpabaaDoorWShare
import Derived.Test.YtjbhgooakdpabaaDoorWN
import Derived.Test.YtjbhgooakdpabaaDoorWFootNe
import Derived.Test.YtjbhgooakdpabaaDoorWAt
import Derived.Test.YtjbhgooakdpabaaDoorWEqStruct
import Derived.Test.YtjbhgooakdpabaaDoorWRepsOne
import Derived.Test.YtjbhgooakdpabaaDoorWInv
import Derived.Test.YtjbhgooakdpabaaDoorWInvWords
import Derived.Test.YtjbhgooakdpabaaDoorWGuard
import Derived.Test.YtjbhgooakdpabaaDoorWNEv
import Derived.Test.YtjbhgooakdpabaaDoorWMore
namespace Go.Proofs.YtjbhgooakdpabaaDoor.PAll
open Go.RowKit Go.Proofs.YtjbhgooakdpabaaDoorW.PrintWords Go.Proofs.YtjbhgooakdpabaaDoorW.PrintLast Go.Proofs.YtjbhgooakdpabaaDoorW.PrintMore
attribute [local go_sem] max2_int min2_int max_two min_two max_three min_three max_four min_four   -- for this text's walks alone
set_option linter.unusedVariables false
set_option linter.unusedSimpArgs false



def errW : Option Int → Value
 | none => .nilIface
 | some c => .iface 0 (.int .i64 c)
theorem errW_none : errW none = .nilIface := rfl
theorem errW_some (c : Int) : errW (some c) = .iface 0 (.int .i64 c) := rfl

-- the values' own types

end Go.Proofs.YtjbhgooakdpabaaDoor.PAll
