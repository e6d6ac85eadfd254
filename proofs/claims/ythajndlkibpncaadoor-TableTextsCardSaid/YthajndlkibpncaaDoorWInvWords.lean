import Derived.Test.YthajndlkibpncaaDoorWInv
import Derived.Test.YthajndlkibpncaaDoorWFootNe
namespace Go.Proofs.YthajndlkibpncaaDoorW.PrintWords
open Go.RowKit
end Go.Proofs.YthajndlkibpncaaDoorW.PrintWords
namespace Go.Proofs.YthajndlkibpncaaDoorW.PrintLast
section
variable {ops : Array Oper} {a : Act} {o og : Oper} {g : Nat} {t : Tmp} {u : Bool}
end
end Go.Proofs.YthajndlkibpncaaDoorW.PrintLast

