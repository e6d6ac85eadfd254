import Derived.Test.YtidjkodejcnolaaDoorQText
import Derived.Test.YtidjkodejcnolaaDoorPAllx2
import Derived.Test.YtidjkodejcnolaaDoorPAllx2
/- Package bcd: numbers, in plain lists. -/
namespace Go.Proofs.YtidjkodejcnolaaDoor.Q
open Go.RowKit Go.Proofs.YtidjkodejcnolaaDoorW.PrintWords Go.Proofs.YtidjkodejcnolaaDoorW.PrintMore Go.Proofs.YtidjkodejcnolaaDoor.PAll
set_option linter.unusedVariables false

theorem bcd_digits_l0 (l : List UInt8) (hl : l.length ≤ 140737488355328) (d : Nat) : ∀ i : Nat, l.length - i = d → i ≤ l.length → Ev (fun k => bcd_digits.l0 k (S l) (l.length : Int) (i : Int)) (decide (AllDig (l.drop i))) := by
  induction d with
  | zero =>
    intro i hd hi
    have e : l.drop i = [] := List.drop_eq_nil_of_le (by omega)
    rw [e]
    exact Ev.step (f := fun _ => some true) (fun k => by simp only [bcd_digits.l0]; rw [if_neg (by omega)]) (Ev.now _)
  | succ d ih =>
    intro i hd hi
    have hlt : i < l.length := by omega
    rw [List.drop_eq_getElem_cons hlt]
    refine Ev.step (f := fun k => if (l[i].toNat : Int) < 48 then some false else if (l[i].toNat : Int) > 57 then some false else bcd_digits.l0 k (S l) (l.length : Int) ((i + 1 : Nat) : Int)) (fun k => ?_) ?_
    · simp only [bcd_digits.l0]
      rw [if_pos (by omega), if_pos (by omega), if_pos (by rw [S_size]; omega), bt_lt hlt, wrap_succ hlt hl]
    by_cases h : IsDig l[i]
    · have h' := h
      unfold IsDig at h'
      rw [show decide (AllDig (l[i] :: l.drop (i + 1))) = decide (AllDig (l.drop (i + 1))) from by rw [decide_eq_decide, AllDig.cons]; simp [h]]
      exact Ev.ite_neg (by omega) (Ev.ite_neg (by omega) (ih (i + 1) (by omega) (by omega)))
    · rw [show decide (AllDig (l[i] :: l.drop (i + 1))) = false from by rw [decide_eq_false_iff_not, AllDig.cons]; exact fun h' => h h'.1]
      unfold IsDig at h
      by_cases h1 : (l[i].toNat : Int) < 48
      · exact Ev.ite_pos h1 (Ev.now _)
      · exact Ev.ite_neg h1 (Ev.ite_pos (by omega) (Ev.now _))
theorem bcd_digits_ev (l : List UInt8) (hl : l.length ≤ 140737488355328) : Ev (fun k => bcd_digits.f k (S l)) (decide (AllDig l)) := bcd_digits_l0 l hl _ 0 rfl (by omega)

theorem bcd_number (l : List UInt8) (hl : l.length ≤ 140737488355328) : Ev (fun k => bcd_Number.f k (S l)) (numR l) := by
  unfold bcd_Number.f
  rw [S_size]
  by_cases h1 : l.length < 1
  · rw [show numR l = (0, false) from if_neg (by omega)]
    exact Ev.ite_pos (by omega) (Ev.now _)
  refine Ev.ite_neg (by omega) ?_
  by_cases h2 : l.length > 18
  · rw [show numR l = (0, false) from if_neg (by omega)]
    exact Ev.ite_pos (by omega) (Ev.now _)
  refine Ev.ite_neg (by omega) ?_
  refine Ev.bind (bcd_digits_ev l hl) ?_
  by_cases h3 : AllDig l
  · rw [show numR l = ((val l : Int), true) from if_pos ⟨by omega, by omega, h3⟩]
    refine Ev.ite_pos (by simpa using h3) ?_
    have hv := val_18 (by omega) h3
    have hp : strconv_ParseInt.f (S l) 10 64 = some ((val l : Int), none) := by
      unfold strconv_ParseInt.f
      rw [if_pos ⟨rfl, rfl, by rw [S_size]; omega⟩, S_list, parse_digits (fun h => by rw [h] at h1; simp at h1) h3 (by omega)]
    rw [hp]
    exact Ev.now _
  · rw [show numR l = (0, false) from if_neg (fun h => h3 h.2.2)]
    exact Ev.ite_neg (by simpa using h3) (Ev.now _)

end Go.Proofs.YtidjkodejcnolaaDoor.Q
