import Derived.Test.YtnnoanfiehjleaaDoorQNum
import Derived.Test.YtnnoanfiehjleaaDoorPAllx2
/- Two digits in one byte. -/
namespace Go.Proofs.YtnnoanfiehjleaaDoor.Q
open Go.RowKit Go.Proofs.YtnnoanfiehjleaaDoorW.PrintWords Go.Proofs.YtnnoanfiehjleaaDoorW.PrintMore Go.Proofs.YtnnoanfiehjleaaDoor.PAll
set_option linter.unusedVariables false

/-- Two digits' byte. -/
def B (a b : Int) : Int := Go.bits .or .u8 (((a - 48) % 256 * 16) % 256) ((b - 48) % 256)
def pk (m : Nat) (l : List UInt8) : List Int := (List.range m).map fun j => B ((l.getD (2 * j) 0).toNat : Int) ((l.getD (2 * j + 1) 0).toNat : Int)
theorem pk_length (m : Nat) (l : List UInt8) : (pk m l).length = m := by simp [pk]
theorem pk_at {m j : Nat} {l : List UInt8} (hj : j < m) (hl : l.length = 2 * m) : (pk m l)[j]'(by rw [pk_length]; exact hj) = B ((l[2 * j]'(by omega)).toNat : Int) ((l[2 * j + 1]'(by omega)).toNat : Int) := by
  have h1 : 2 * j < l.length := by omega
  have h2 : 2 * j + 1 < l.length := by omega
  simp [pk, List.getD_eq_getElem?_getD, List.getElem?_eq_getElem h1, List.getElem?_eq_getElem h2]
theorem pack_l0 (m : Nat) (l : List UInt8) (hl : l.length = 2 * m) (hm : m ≤ 1000) (d : Nat) : ∀ j : Nat, m - j = d → j ≤ m → Ev (fun k => bcd_Pack.l0 k (S l) ((pk m l).take j) ((2 * j : Nat) : Int)) (pk m l, true) := by
  have hp := pk_length m l
  induction d with
  | zero =>
    intro j hd hj
    rw [List.take_of_length_le (show (pk m l).length ≤ j by omega)]
    exact Ev.step (f := fun _ => some (pk m l, true)) (fun k => by simp only [bcd_Pack.l0]; rw [if_neg (by rw [S_size]; omega)]) (Ev.now _)
  | succ d ih =>
    intro j hd hj
    have hlt : j < m := by omega
    have h1 : 2 * j < l.length := by omega
    have h2 : 2 * j + 1 < l.length := by omega
    have w1 : wrap64 (((2 * j : Nat) : Int) + 1) = ((2 * j + 1 : Nat) : Int) := by unfold wrap64; omega
    have w2 : wrap64 (((2 * j : Nat) : Int) + 2) = ((2 * (j + 1) : Nat) : Int) := by unfold wrap64; omega
    refine Ev.step (fun k => ?_) (ih (j + 1) (by omega) (by omega))
    simp only [bcd_Pack.l0]
    rw [w1, w2, if_pos (by rw [S_size]; omega), if_pos (by omega), if_pos (by omega), if_pos (by rw [S_size]; omega), if_pos (by rw [List.length_take]; omega), bt_lt h1, bt_lt h2]
    rw [List.take_succ_eq_append_getElem (show j < (pk m l).length by omega), pk_at hlt hl]
    rfl
theorem pack_j0 (m : Nat) (l : List UInt8) (hl : l.length = 2 * m) (hm : m ≤ 1000) : Ev (fun k => bcd_Pack.j0 k (S l)) (pk m l, true) := by
  refine Ev.step (f := fun k => bcd_Pack.l0 k (S l) [] 0) (fun k => by simp only [bcd_Pack.j0]) ?_
  exact pack_l0 m l hl hm _ 0 rfl (by omega)
theorem pack_ev (l : List UInt8) (hl : l.length ≤ 1000) : ∃ p, Ev (fun k => bcd_Pack.f k (S l)) (p, decide (AllDig l)) := by
  unfold bcd_Pack.f
  by_cases h : AllDig l
  · by_cases h2 : l.length % 2 = 1
    · refine ⟨pk ((l.length + 1) / 2) (48 :: l), Ev.bind (bcd_digits_ev l (by omega)) ?_⟩
      rw [show decide (AllDig l) = true from decide_eq_true h]
      refine Ev.ite_pos rfl (Ev.ite_pos (by rw [S_size]; omega) (Ev.ite_pos (by rw [S_size]; omega) ?_))
      have e : (⟨#[48]⟩ : ByteArray) ++ S l = S (48 :: l) := S_append [48] l
      rw [e]
      exact pack_j0 _ _ (by rw [List.length_cons]; omega) (by omega)
    · refine ⟨pk (l.length / 2) l, Ev.bind (bcd_digits_ev l (by omega)) ?_⟩
      rw [show decide (AllDig l) = true from decide_eq_true h]
      exact Ev.ite_pos rfl (Ev.ite_neg (by rw [S_size]; omega) (pack_j0 _ _ (by omega) (by omega)))
  · refine ⟨[], Ev.bind (bcd_digits_ev l (by omega)) ?_⟩
    rw [show decide (AllDig l) = false from decide_eq_false h]
    exact Ev.ite_neg (by simp) (Ev.now _)
end Go.Proofs.YtnnoanfiehjleaaDoor.Q
