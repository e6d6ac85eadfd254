/- Which fields there are, of which form. -/
import Derived.Test.YtonodamokacgiaaDoorQField
import Derived.Test.YtonodamokacgiaaDoorPAllx6
namespace Go.Proofs.YtonodamokacgiaaDoor.Pure
open Go.RowKit Go.Proofs.YtonodamokacgiaaDoorW.PrintWords Go.Proofs.YtonodamokacgiaaDoorW.PrintMore Go.Proofs.YtonodamokacgiaaDoor.PAll Go.Proofs.YtonodamokacgiaaDoor.Q

theorem forms_l0 (P : List Int) (hP : P.length ≤ 100) (d : Nat) : ∀ i : Nat, P.length - i = d → i ≤ P.length → Ev (fun k => guichetlaw8_FieldForms.l0 k P (P.length : Int) (i : Int)) true := by
  induction d with
  | zero =>
    intro i hd hi
    exact Ev.step (f := fun _ => some true) (fun k => by simp only [guichetlaw8_FieldForms.l0]; rw [if_neg (by omega)]) (Ev.now _)
  | succ d ih =>
    intro i hd hi
    have hlt : i < P.length := by omega
    refine Ev.step (f := fun k => (field_Of.f k (rd P (i : Int))).bind fun a => (guichetref1_Of.f k (rd P (i : Int))).bind fun b => if (a.2.2.2 != b.2.2.2) = true then some false else if (a.1 != b.1) = true then some false else if a.2.1 = b.2.1 then (if a.2.2.1 = b.2.2.1 then guichetlaw8_FieldForms.l0 k P (P.length : Int) ((i + 1 : Nat) : Int) else some false) else some false) (fun k => ?_) ?_
    · simp only [guichetlaw8_FieldForms.l0]
      rw [if_pos (by omega), if_pos (by omega), if_pos (by omega), wrap_succ hlt (by omega)]
    · exact Ev.bind (field_of _) (Ev.bind (ref_of _) (Ev.ite_neg (by simp) (Ev.ite_neg (by simp) (Ev.ite_pos rfl (Ev.ite_pos rfl (ih (i + 1) (by omega) (by omega)))))))
theorem FieldForms : guichetlaw8_FieldForms.Pure := by
  intro n _
  refine Ev.rounds (g := fun k => guichetlaw8_FieldForms.f k n) ?_
  unfold guichetlaw8_FieldForms.f
  exact Ev.bind known_true (Ev.ite_pos rfl (Ev.some_bind (forms_l0 [n, Go.bits .and .i64 n 127, 0, 128] (by simp) _ 0 rfl (by simp))))
end Go.Proofs.YtonodamokacgiaaDoor.Pure
