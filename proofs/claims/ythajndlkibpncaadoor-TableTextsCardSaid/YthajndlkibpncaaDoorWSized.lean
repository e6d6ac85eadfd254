import Derived.SizedLaws
import Derived.ChangeSlices
namespace Go.Proofs.YthajndlkibpncaaDoorW.PrintWords
open Go.ChangeShapes Go.WideShapes
end Go.Proofs.YthajndlkibpncaaDoorW.PrintWords

