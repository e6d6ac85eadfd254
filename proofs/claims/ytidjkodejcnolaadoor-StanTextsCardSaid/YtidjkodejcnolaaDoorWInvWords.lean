import Derived.Test.YtidjkodejcnolaaDoorWInv
import Derived.Test.YtidjkodejcnolaaDoorWFootNe
namespace Go.Proofs.YtidjkodejcnolaaDoorW.PrintWords
open Go.RowKit
end Go.Proofs.YtidjkodejcnolaaDoorW.PrintWords
namespace Go.Proofs.YtidjkodejcnolaaDoorW.PrintLast
section
variable {ops : Array Oper} {a : Act} {o og : Oper} {g : Nat} {t : Tmp} {u : Bool}
end
end Go.Proofs.YtidjkodejcnolaaDoorW.PrintLast

