import Derived.SizedLaws
import Derived.ChangeSlices
namespace Go.Proofs.YtidjkodejcnolaaDoorW.PrintWords
open Go.ChangeShapes Go.WideShapes
end Go.Proofs.YtidjkodejcnolaaDoorW.PrintWords

