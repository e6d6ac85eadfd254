import Derived.Test.YtidjkodejcnolaaDoorQBcd
import Derived.Test.YtidjkodejcnolaaDoorPAllx3
/- The chapter's example. -/
namespace Go.Proofs.YtidjkodejcnolaaDoor.Q
open Go.RowKit Go.Proofs.YtidjkodejcnolaaDoorW.PrintWords Go.Proofs.YtidjkodejcnolaaDoorW.PrintMore Go.Proofs.YtidjkodejcnolaaDoor.PAll
set_option linter.unusedVariables false
theorem text_32 : stan_Text.f 3 2 = some (⟨#[45, 48, 48, 48, 48, 51, 45, 48, 48, 48, 48, 48, 50]⟩ : ByteArray) := by
  unfold stan_Text.f
  rw [show wrap64 3 = 3 from by decide +kernel, show wrap64 2 = 2 from by decide +kernel, bcd_Digits_eq 3 5 (by decide), bcd_Digits_eq 2 6 (by decide)]
  decide +kernel
theorem known10 : Ev (fun k => guichetlaw10_known.f k) true := by
  unfold guichetlaw10_known.f
  refine Ev.bind (a := (3, 2, true)) ?_ ?_
  · unfold stan_Parse.f
    refine Ev.ite_pos (by decide) (Ev.ite_pos (by decide) (Ev.ite_pos (by decide) ?_))
    have h1 := bcd_number [48, 48, 48, 48, 51] (by decide)
    rw [show numR [48, 48, 48, 48, 51] = (3, true) from by decide +kernel] at h1
    have h2 := bcd_number [48, 48, 48, 48, 48, 50] (by decide)
    rw [show numR [48, 48, 48, 48, 48, 50] = (2, true) from by decide +kernel] at h2
    refine Ev.bind (a := (3, true)) h1 (Ev.ite_pos (by decide) (Ev.bind (a := (2, true)) h2 ?_))
    rw [show stan_Text.f (IntKind.u16.wrap ((3 : Int), true).1) ((((2 : Int), true).1) % 4294967296) = some (⟨#[45, 48, 48, 48, 48, 51, 45, 48, 48, 48, 48, 48, 50]⟩ : ByteArray) from text_32]
    exact ⟨0, fun _ _ => by dsimp only; decide +kernel⟩
  refine Ev.const_bind text_32 ?_
  refine Ev.bind (a := true) (Ev.of (stan_Less.mono _ _ _ _) (k := 10) (by decide +kernel)) ?_
  exact ⟨0, fun _ _ => by dsimp only; decide +kernel⟩
end Go.Proofs.YtidjkodejcnolaaDoor.Q
