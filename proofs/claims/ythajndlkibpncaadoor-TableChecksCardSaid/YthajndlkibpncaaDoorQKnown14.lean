import Derived.Test.YthajndlkibpncaaDoorQTable2
import Derived.Test.YthajndlkibpncaaDoorPAllx3
import Derived.Test.YthajndlkibpncaaDoorPAllx2
import Derived.Test.YthajndlkibpncaaDoorPAllx2
import Derived.Test.YthajndlkibpncaaDoorPAllx5
/- Tables' text; the example. -/
namespace Go.Proofs.YthajndlkibpncaaDoor.Q
open Go.RowKit Go.Proofs.YthajndlkibpncaaDoorW.PrintWords Go.Proofs.YthajndlkibpncaaDoorW.PrintMore Go.Proofs.YthajndlkibpncaaDoor.PAll
set_option linter.unusedVariables false
set_option linter.unusedSimpArgs false
def textL (l : List S34) : List UInt8 := l.flatMap fun x => lineL x ++ [10]
def AllR (l : List S34) : Prop := ∀ x ∈ l, RightT x
instance (l : List S34) : Decidable (AllR l) := by unfold AllR; infer_instance
theorem AllR.cons {x : S34} {l : List S34} : AllR (x :: l) ↔ RightT x ∧ AllR l := by unfold AllR; simp
theorem textL_cons (x : S34) (l : List S34) : textL (x :: l) = lineL x ++ 10 :: textL l := by simp [textL]
theorem textL_len (l : List S34) : (textL l).length = 14 * l.length := by
  induction l with
  | nil => rfl
  | cons x l ih => rw [textL_cons, List.length_append, lineL_len, List.length_cons, ih, List.length_cons]; omega
theorem text_l0 (l : List S34) (hl : l.length ≤ 1000) (hu : ∀ x ∈ l, U8 x.f1) (d : Nat) : ∀ (i : Nat) (acc : List UInt8), l.length - i = d → i ≤ l.length → acc.length ≤ 14 * i → Ev (fun k => table_Text.l0 k l (i : Int) (S acc)) (if AllR (l.drop i) then S (acc ++ textL (l.drop i)) else S []) := by
  induction d with
  | zero =>
    intro i acc hd hi ha
    obtain rfl : i = l.length := by omega
    rw [List.drop_length, if_pos (show AllR [] from fun x hx => by cases hx)]
    refine Ev.step (f := fun _ => some (S acc)) (fun k => by simp only [table_Text.l0]; rw [if_neg (by omega)]) ?_
    rw [show acc ++ textL [] = acc from List.append_nil _]
    exact Ev.now _
  | succ d ih =>
    intro i acc hd hi ha
    have hlt : i < l.length := by omega
    have hdr : l.drop i = l[i] :: l.drop (i + 1) := List.drop_eq_getElem_cons hlt
    have hk := right_ev l[i] (hu _ (List.getElem_mem hlt))
    refine Ev.step (f := fun k => (table_right.f k (l[i]).f0 (l[i]).f1 (l[i]).f2 (l[i]).f3).bind fun t => (if t = true then ((table_line.f (l[i]).f0 (l[i]).f1 (l[i]).f2 (l[i]).f3).bind fun u => (if u.size + 1 ≤ 9223372036854775807 then (if (S acc).size + (u.size + 1) ≤ 140737488355328 then (table_Text.l0 k l ((i + 1 : Nat) : Int) (S acc ++ (u ++ (⟨#[10]⟩ : ByteArray)))) else none) else none)) else (some (⟨#[]⟩ : ByteArray)))) (fun k => ?_) ?_
    · simp only [table_Text.l0]
      rw [if_pos (by omega), if_pos (by omega), rdT_lt hlt, wrap_succ hlt (by omega)]
    · refine Ev.bind hk ?_
      rw [hdr]
      by_cases hR : RightT l[i]
      · rw [decide_eq_true hR]
        refine Ev.ite_pos rfl (Ev.const_bind (line_eq _ hR) ?_)
        refine Ev.ite_pos (by rw [S_size, lineL_len]; omega) (Ev.ite_pos (by rw [S_size, S_size, lineL_len]; omega) ?_)
        rw [show (⟨#[10]⟩ : ByteArray) = S [10] from rfl, S_append, S_append]
        have := ih (i + 1) (acc ++ (lineL l[i] ++ [10])) (by omega) (by omega) (by rw [List.length_append, List.length_append, lineL_len, List.length_singleton]; omega)
        by_cases hA : AllR (l.drop (i + 1))
        · rw [if_pos hA] at this
          rw [if_pos (AllR.cons.mpr ⟨hR, hA⟩), textL_cons]
          rw [show acc ++ (lineL l[i] ++ 10 :: textL (l.drop (i + 1))) = acc ++ (lineL l[i] ++ [10]) ++ textL (l.drop (i + 1)) from by simp]
          exact this
        · rw [if_neg hA] at this
          rw [if_neg (fun h => hA (AllR.cons.mp h).2)]
          exact this
      · rw [decide_eq_false hR, if_neg (fun h => hR (AllR.cons.mp h).1)]
        exact Ev.ite_neg (by simp) (Ev.now _)
def textR (l : List S34) : List UInt8 := if AllR l then textL l else []
theorem text_ev (l : List S34) (hl : l.length ≤ 1000) (hu : ∀ x ∈ l, U8 x.f1) : Ev (fun k => table_Text.f k l) (S (textR l)) := by
  have h := text_l0 l hl hu _ 0 [] rfl (by omega) (by simp)
  unfold textR
  rw [List.drop_zero] at h
  by_cases hA : AllR l
  · rw [if_pos hA] at h ⊢; exact h
  · rw [if_neg hA] at h ⊢; exact h
def exL : List S34 := [⟨0, 65, 1, 0⟩, ⟨1, 90, 0, 0⟩]
def exT : List UInt8 := [48, 48, 48, 32, 65, 32, 48, 48, 49, 32, 48, 48, 48, 10, 48, 48, 49, 32, 90, 32, 48, 48, 48, 32, 48, 48, 48, 10]
theorem ex_parse : parseS exT = (exL, 0, 0) := by kernel_rfl
theorem ex_none : parseS [120] = ([], 1, 28) := by kernel_rfl
theorem ex_text : textR exL = exT := by kernel_rfl
theorem ex_check : table_Check.f 60 exL = some (0, 0) := by decide +kernel
theorem ex_check2 : table_Check.f 60 [⟨1, 73, 1, 0⟩] = some (0, 30) := by decide +kernel
theorem ex_find : table_Find.f 20 exL 1 = some (1, 90, 0, 0, true) := by decide +kernel
theorem known_true : Ev (fun k => guichetlaw14_known.f k) true := by
  have h1 := parse_f exT (by decide)
  rw [ex_parse] at h1
  have h2 := parse_f [120] (by decide)
  rw [ex_none] at h2
  have h3 := text_ev exL (by decide) (by unfold exL U8; simp)
  rw [ex_text] at h3
  unfold guichetlaw14_known.f
  refine Ev.bind h1 (Ev.bind (Ev.of (fun k => table_Check.mono _ k) ex_check) (Ev.bind (Ev.of (fun k => table_Check.mono _ k) ex_check2) (Ev.bind (Ev.of (fun k => table_Find.mono _ _ k) ex_find) (Ev.bind h2 ?_))))
  refine Ev.ite_pos rfl (Ev.ite_pos rfl (Ev.ite_pos rfl (Ev.ite_pos rfl (Ev.ite_pos rfl (Ev.ite_pos rfl (Ev.ite_pos rfl (Ev.ite_pos rfl (Ev.ite_pos rfl (Ev.ite_pos rfl ?_)))))))))
  refine Ev.bind h3 ?_
  rw [show ((S exT).toList == ([48, 48, 48, 32, 65, 32, 48, 48, 49, 32, 48, 48, 48, 10, 48, 48, 49, 32, 90, 32, 48, 48, 48, 32, 48, 48, 48, 10] : List UInt8)) = true from by rw [toList_S]; rfl]
  exact Ev.now _
end Go.Proofs.YthajndlkibpncaaDoor.Q
