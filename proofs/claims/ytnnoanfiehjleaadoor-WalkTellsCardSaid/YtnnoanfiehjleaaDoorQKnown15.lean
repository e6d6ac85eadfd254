import Derived.Test.YtnnoanfiehjleaaDoorQWalk
import Derived.Test.YtnnoanfiehjleaaDoorPAllx3
/- The chapter's example. -/
namespace Go.Proofs.YtnnoanfiehjleaaDoor.Q
open Go.RowKit Go.Proofs.YtnnoanfiehjleaaDoorW.PrintWords Go.Proofs.YtnnoanfiehjleaaDoorW.PrintMore Go.Proofs.YtnnoanfiehjleaaDoor.PAll
set_option linter.unusedVariables false
theorem known15 : Ev (fun k => guichetlaw15_known.f k) true := by
  unfold guichetlaw15_known.f
  refine Ev.bind (run_ev _ (by decide) 0 _ (fun x hx => ?_)) ?_
  · simp only [List.mem_cons, List.not_mem_nil, or_false] at hx
    rcases hx with rfl | rfl <;> decide
  · rw [show runG ([(⟨0, 65, 1, 0⟩ : S34), (⟨1, 68, 2, 1⟩ : S34), (⟨2, 73, 3, 0⟩ : S34), (⟨3, 90, 0, 0⟩ : S34)] : List S34) 0 [S [53, 49], S [54, 48, 48]] = (3, 3, true, S [53, 49], 600) from by decide +kernel]
    exact ⟨0, fun _ _ => by dsimp only; decide +kernel⟩
end Go.Proofs.YtnnoanfiehjleaaDoor.Q
