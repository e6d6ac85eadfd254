import Derived.Test.YtkhgiojpegghoaaDoorWInv
import Derived.Test.YtkhgiojpegghoaaDoorWFootNe
namespace Go.Proofs.YtkhgiojpegghoaaDoorW.PrintWords
open Go.RowKit
end Go.Proofs.YtkhgiojpegghoaaDoorW.PrintWords
namespace Go.Proofs.YtkhgiojpegghoaaDoorW.PrintLast
section
variable {ops : Array Oper} {a : Act} {o og : Oper} {g : Nat} {t : Tmp} {u : Bool}
end
end Go.Proofs.YtkhgiojpegghoaaDoorW.PrintLast

