import Derived.SizedLaws
import Derived.ChangeSlices
namespace Go.Proofs.YteigefgobkdmgaaDoorW.PrintWords
open Go.ChangeShapes Go.WideShapes
end Go.Proofs.YteigefgobkdmgaaDoorW.PrintWords

