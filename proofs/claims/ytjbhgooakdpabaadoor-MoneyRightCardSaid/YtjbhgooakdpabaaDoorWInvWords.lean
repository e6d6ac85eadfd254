import Derived.Test.YtjbhgooakdpabaaDoorWInv
import Derived.Test.YtjbhgooakdpabaaDoorWFootNe
namespace Go.Proofs.YtjbhgooakdpabaaDoorW.PrintWords
open Go.RowKit
end Go.Proofs.YtjbhgooakdpabaaDoorW.PrintWords
namespace Go.Proofs.YtjbhgooakdpabaaDoorW.PrintLast
section
variable {ops : Array Oper} {a : Act} {o og : Oper} {g : Nat} {t : Tmp} {u : Bool}
end
end Go.Proofs.YtjbhgooakdpabaaDoorW.PrintLast

