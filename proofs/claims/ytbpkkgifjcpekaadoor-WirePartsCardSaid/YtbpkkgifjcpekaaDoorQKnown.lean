import Derived.Test.YtbpkkgifjcpekaaDoorQWire
import Derived.Test.YtbpkkgifjcpekaaDoorPAllx3
namespace Go.Proofs.YtbpkkgifjcpekaaDoor.Q
open Go.RowKit Go.Proofs.YtbpkkgifjcpekaaDoorW.PrintWords Go.Proofs.YtbpkkgifjcpekaaDoorW.PrintMore Go.Proofs.YtbpkkgifjcpekaaDoor.PAll
theorem known_40 : guichetlaw11_known.f 40 = some true := by decide +kernel
theorem known_true : Ev (fun k => guichetlaw11_known.f k) true := Ev.of guichetlaw11_known.mono known_40
end Go.Proofs.YtbpkkgifjcpekaaDoor.Q
