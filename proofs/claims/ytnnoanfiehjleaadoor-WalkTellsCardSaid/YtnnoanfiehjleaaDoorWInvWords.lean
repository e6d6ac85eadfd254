import Derived.Test.YtnnoanfiehjleaaDoorWInv
import Derived.Test.YtnnoanfiehjleaaDoorWFootNe
namespace Go.Proofs.YtnnoanfiehjleaaDoorW.PrintWords
open Go.RowKit
end Go.Proofs.YtnnoanfiehjleaaDoorW.PrintWords
namespace Go.Proofs.YtnnoanfiehjleaaDoorW.PrintLast
section
variable {ops : Array Oper} {a : Act} {o og : Oper} {g : Nat} {t : Tmp} {u : Bool}
end
end Go.Proofs.YtnnoanfiehjleaaDoorW.PrintLast

