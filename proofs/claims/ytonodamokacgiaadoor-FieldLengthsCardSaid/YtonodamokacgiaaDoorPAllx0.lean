-- written by xprint.py out of the translation. Not trusted: Lean checks it.
import Derived.Test.YtonodamokacgiaaDoorProg
import Derived.Below
import Derived.Deep.Draws
import Derived.Deep.AppendLies
import Derived.Maps.AppendAt
import Derived.OwnWalk
import Derived.Laws.BytesArg
import Derived.Laws.MakeOwn
import Derived.Laws.OwnMore
import Derived.Deep.OwnRows
import Derived.Tactics
import Derived.Lib.ConvBytes
import Derived.Laws.Slices
import Derived.WalkKit
import Derived.KernelRfl
import Derived.RowKit3
import Derived.Deep.LoopGhost
import Derived.Deep.QuietTactic
import Derived.BigQuiet
import Derived.WideLaws
import Derived.Deep.DeepCutAuto
import Derived.Deep.CutBlock
import Derived.Deep.RegionHeld3
import Derived.Laws.Rows
import Derived.Lib.AppendStr
import Derived.ArgAppend
import Derived.Laws.IdiomCopy
import Derived.OrdersHeld
import Derived.Laws.BitsLemmas
import Derived.RowKit
import Derived.Test.YtonodamokacgiaaDoorXWords
import Derived.Test.YtonodamokacgiaaDoorWWords
import Derived.Test.YtonodamokacgiaaDoorWLast
import Derived.Test.YtonodamokacgiaaDoorWTab
import Derived.Test.YtonodamokacgiaaDoorWFour
import Derived.Test.YtonodamokacgiaaDoorWQPut
import Derived.Test.YtonodamokacgiaaDoorWApart
import Derived.Test.YtonodamokacgiaaDoorWArr
import Derived.Test.YtonodamokacgiaaDoorWZeros
import Derived.Test.YtonodamokacgiaaDoorWFoot
import Derived.Test.YtonodamokacgiaaDoorWKept
import Derived.Test.YtonodamokacgiaaDoorWShare
import Derived.Test.YtonodamokacgiaaDoorWN
import Derived.Test.YtonodamokacgiaaDoorWFootNe
import Derived.Test.YtonodamokacgiaaDoorWAt
import Derived.Test.YtonodamokacgiaaDoorWEqStruct
import Derived.Test.YtonodamokacgiaaDoorWRepsOne
import Derived.Test.YtonodamokacgiaaDoorWInv
import Derived.Test.YtonodamokacgiaaDoorWInvWords
import Derived.Test.YtonodamokacgiaaDoorWGuard
import Derived.Test.YtonodamokacgiaaDoorWNEv
import Derived.Test.YtonodamokacgiaaDoorWMore
namespace Go.Proofs.YtonodamokacgiaaDoor.PAll
open Go.RowKit Go.Proofs.YtonodamokacgiaaDoorW.PrintWords Go.Proofs.YtonodamokacgiaaDoorW.PrintLast Go.Proofs.YtonodamokacgiaaDoorW.PrintMore
attribute [local go_sem] max2_int min2_int max_two min_two max_three min_three max_four min_four   -- for this text's walks alone
set_option linter.unusedVariables false
set_option linter.unusedSimpArgs false



def errW : Option Int → Value
  | none => .nilIface
  | some c => .iface 0 (.int .i64 c)
theorem errW_none : errW none = .nilIface := rfl
theorem errW_some (c : Int) : errW (some c) = .iface 0 (.int .i64 c) := rfl

theorem info3 : (Tryd.prog.info? 3).map (fun i => (i.zero, i.size, i.bytes)) = some (some (.int .i64 0), 1, 8) := by kernel_rfl
theorem info5 : (Tryd.prog.info? 5).map (fun i => (i.zero, i.size, i.bytes)) = some (some (.int .u8 0), 1, 1) := by kernel_rfl
-- the values' own types

end Go.Proofs.YtonodamokacgiaaDoor.PAll
