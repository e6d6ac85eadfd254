import Derived.Test.YtjbhgooakdpabaaDoorWWords
namespace Go.Proofs.YtjbhgooakdpabaaDoorW.PrintWords
open Go.RowKit
section
variable {P : Program} {ops : Array Oper} {rest : List Oper} {o : Oper} {a : Act} {Q : Exit → Act → World → Prop} {W : World}
end
end Go.Proofs.YtjbhgooakdpabaaDoorW.PrintWords

