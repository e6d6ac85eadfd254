import Derived.Test.YtnnoanfiehjleaaDoorQBase
import Derived.Test.YtnnoanfiehjleaaDoorQDigits
import Derived.Test.YtnnoanfiehjleaaDoorPAllx2
import Derived.Test.YtnnoanfiehjleaaDoorPAllx2
/- Package bcd: numbers, in plain lists. -/
namespace Go.Proofs.YtnnoanfiehjleaaDoor.Q
open Go.RowKit Go.Proofs.YtnnoanfiehjleaaDoorW.PrintWords Go.Proofs.YtnnoanfiehjleaaDoorW.PrintMore Go.Proofs.YtnnoanfiehjleaaDoor.PAll
set_option linter.unusedVariables false

/-- A text out of its bytes. -/
abbrev S (l : List UInt8) : ByteArray := ⟨l.toArray⟩
theorem S_list (l : List UInt8) : (S l).data.toList = l := rfl
theorem S_size (l : List UInt8) : (S l).size = l.length := rfl
theorem S_of (s : ByteArray) : S s.data.toList = s := rfl
theorem size_list (s : ByteArray) : s.size = s.data.toList.length := (data_length s).symm
theorem S_append (l m : List UInt8) : S l ++ S m = S (l ++ m) := by
  apply ByteArray.ext
  rw [ByteArray.data_append]
  simp
theorem S_inj {l m : List UInt8} (h : S l = S m) : l = m := congrArg (fun s : ByteArray => s.data.toList) h
theorem S_extract (l : List UInt8) (a b : Nat) : (S l).extract a b = S ((l.take b).drop a) := by
  apply ByteArray.ext
  rw [ByteArray.data_extract]
  simp [List.drop_take]
theorem bt_lt {l : List UInt8} {i : Nat} (h : i < l.length) : bt (S l) (i : Int) = (l[i].toNat : Int) := by
  rw [← rd_bytesOf, rd_lt (by simpa [bytesOf] using h)]
  simp [bytesOf]
theorem toList_S (l : List UInt8) : (S l).toList = l := by rw [Go.Lib.toList_data]

def AllDig (l : List UInt8) : Prop := ∀ c ∈ l, IsDig c
instance (l : List UInt8) : Decidable (AllDig l) := by unfold AllDig; infer_instance
theorem AllDig.cons {c : UInt8} {l : List UInt8} : AllDig (c :: l) ↔ IsDig c ∧ AllDig l := by unfold AllDig; simp
theorem bcd_digits_l0 (l : List UInt8) (hl : l.length ≤ 140737488355328) (d : Nat) : ∀ i : Nat, l.length - i = d → i ≤ l.length → Ev (fun k => bcd_digits.l0 k (S l) (l.length : Int) (i : Int)) (decide (AllDig (l.drop i))) := by
  induction d with
  | zero =>
    intro i hd hi
    have e : l.drop i = [] := List.drop_eq_nil_of_le (by omega)
    rw [e]
    exact Ev.step (f := fun _ => some true) (fun k => by simp only [bcd_digits.l0]; rw [if_neg (by omega)]) (Ev.now _)
  | succ d ih =>
    intro i hd hi
    have hlt : i < l.length := by omega
    rw [List.drop_eq_getElem_cons hlt]
    refine Ev.step (f := fun k => if (l[i].toNat : Int) < 48 then some false else if (l[i].toNat : Int) > 57 then some false else bcd_digits.l0 k (S l) (l.length : Int) ((i + 1 : Nat) : Int)) (fun k => ?_) ?_
    · simp only [bcd_digits.l0]
      rw [if_pos (by omega), if_pos (by omega), if_pos (by rw [S_size]; omega), bt_lt hlt, wrap_succ hlt hl]
    by_cases h : IsDig l[i]
    · have h' := h
      unfold IsDig at h'
      rw [show decide (AllDig (l[i] :: l.drop (i + 1))) = decide (AllDig (l.drop (i + 1))) from by rw [decide_eq_decide, AllDig.cons]; simp [h]]
      exact Ev.ite_neg (by omega) (Ev.ite_neg (by omega) (ih (i + 1) (by omega) (by omega)))
    · rw [show decide (AllDig (l[i] :: l.drop (i + 1))) = false from by rw [decide_eq_false_iff_not, AllDig.cons]; exact fun h' => h h'.1]
      unfold IsDig at h
      by_cases h1 : (l[i].toNat : Int) < 48
      · exact Ev.ite_pos h1 (Ev.now _)
      · exact Ev.ite_neg h1 (Ev.ite_pos (by omega) (Ev.now _))
theorem bcd_digits_ev (l : List UInt8) (hl : l.length ≤ 140737488355328) : Ev (fun k => bcd_digits.f k (S l)) (decide (AllDig l)) := bcd_digits_l0 l hl _ 0 rfl (by omega)

/-- A text's number. -/
def numR (l : List UInt8) : Int × Bool := if 1 ≤ l.length ∧ l.length ≤ 18 ∧ AllDig l then ((val l : Int), true) else (0, false)
theorem val_18 {l : List UInt8} (h : l.length ≤ 18) (hd : AllDig l) : val l < 1000000000000000000 := by
  have h1 := val_lt l.length l rfl hd
  have h2 : (10 : Nat) ^ l.length ≤ 10 ^ 18 := Nat.pow_le_pow_right (by decide) h
  omega
theorem bcd_number (l : List UInt8) (hl : l.length ≤ 140737488355328) : Ev (fun k => bcd_Number.f k (S l)) (numR l) := by
  unfold bcd_Number.f
  rw [S_size]
  by_cases h1 : l.length < 1
  · rw [show numR l = (0, false) from if_neg (by omega)]
    exact Ev.ite_pos (by omega) (Ev.now _)
  refine Ev.ite_neg (by omega) ?_
  by_cases h2 : l.length > 18
  · rw [show numR l = (0, false) from if_neg (by omega)]
    exact Ev.ite_pos (by omega) (Ev.now _)
  refine Ev.ite_neg (by omega) ?_
  refine Ev.bind (bcd_digits_ev l hl) ?_
  by_cases h3 : AllDig l
  · rw [show numR l = ((val l : Int), true) from if_pos ⟨by omega, by omega, h3⟩]
    refine Ev.ite_pos (by simpa using h3) ?_
    have hv := val_18 (by omega) h3
    have hp : strconv_ParseInt.f (S l) 10 64 = some ((val l : Int), none) := by
      unfold strconv_ParseInt.f
      rw [if_pos ⟨rfl, rfl, by rw [S_size]; omega⟩, S_list, parse_digits (fun h => by rw [h] at h1; simp at h1) h3 (by omega)]
    rw [hp]
    exact Ev.now _
  · rw [show numR l = (0, false) from if_neg (fun h => h3 h.2.2)]
    exact Ev.ite_neg (by simpa using h3) (Ev.now _)

end Go.Proofs.YtnnoanfiehjleaaDoor.Q
