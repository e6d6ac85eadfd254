import Derived.Test.YtidjkodejcnolaaDoorQKnown10
import Derived.Test.YtidjkodejcnolaaDoorPAllx4
/- Any script of numbers comes to just the document's: what is left of it for plain Lean is the chapter's example. -/
namespace Go.Proofs.YtidjkodejcnolaaDoor.Pure
open Go.RowKit Go.Proofs.YtidjkodejcnolaaDoorW.PrintWords Go.Proofs.YtidjkodejcnolaaDoorW.PrintMore Go.Proofs.YtidjkodejcnolaaDoor.PAll Go.Proofs.YtidjkodejcnolaaDoor.Q
theorem StanPlays : guichetlaw10_StanPlays.Pure := Ev.rounds known10
end Go.Proofs.YtidjkodejcnolaaDoor.Pure
