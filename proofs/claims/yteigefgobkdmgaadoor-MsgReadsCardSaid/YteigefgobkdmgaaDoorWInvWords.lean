import Derived.Test.YteigefgobkdmgaaDoorWInv
import Derived.Test.YteigefgobkdmgaaDoorWFootNe
namespace Go.Proofs.YteigefgobkdmgaaDoorW.PrintWords
open Go.RowKit
end Go.Proofs.YteigefgobkdmgaaDoorW.PrintWords
namespace Go.Proofs.YteigefgobkdmgaaDoorW.PrintLast
section
variable {ops : Array Oper} {a : Act} {o og : Oper} {g : Nat} {t : Tmp} {u : Bool}
end
end Go.Proofs.YteigefgobkdmgaaDoorW.PrintLast

